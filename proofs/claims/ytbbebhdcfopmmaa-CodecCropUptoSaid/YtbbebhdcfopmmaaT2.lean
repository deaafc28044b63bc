import Derived.Test.YtbbebhdcfopmmaaT1
import Derived.Laws.EntriesVeiled
section
namespace Go.Proofs.Ytbbebhdcfopmmaa.PCodecNames
open Go.RowKit Go.Proofs.YtbbebhdcfopmmaaW.PrintWords Go.Proofs.YtbbebhdcfopmmaaW.PrintLast Go.Proofs.YtbbebhdcfopmmaaW.PrintMore
attribute [local go_sem] max2_int min2_int max_two min_two max_three min_three max_four min_four   -- for this text's walks alone
set_option linter.unusedVariables false
set_option linter.unusedSimpArgs false

def codec_Plane.l0 : Nat → Int → List Int → Int → Int → Int → Int → List Int → Option (Int × Int × List Int × Int)
 | 0, _, _, _, _, _, _, _ => none
 | k + 1, x0, x27, x28, x29, x131000, x131001, x131002 => if x29 < x28 then (if 0 ≤ x29 then (if x29 < (x27.length : Int) then ((codec_guessed.f k x131002 x0 x29).bind fun t132 => ((bits_Key.f t132).bind fun t133 => ((bits_FromKey.f ((t133 + (rd x27 x29)) % 4294967296)).bind fun t134 => (if x29 < (x131002.length : Int) then (codec_Plane.l0 k x0 x27 x28 (wrap64 (x29 + 1)) x131000 x131001 (x131002.set (x29 : Int).toNat t134)) else (none))))) else (none)) else (none)) else (some (x131000, x131001, x131002, 0))
def codec_Plane.f (k : Nat) (a0 : Int) (a1 : Int) (l2 : List Int) : Option (Int × Int × List Int × Int) := (plane_Check.f a0 a1 l2).bind fun t126 => (if t126 = 0 then (if 0 ≤ (l2.length : Int) then (if ((l2.length : Int) : Int).toNat ≤ 70368744177664 then (codec_Plane.l0 k a0 l2 (l2.length : Int) 0 a0 a1 (List.replicate ((l2.length : Int) : Int).toNat 0)) else (none)) else (none)) else (some (0, 0, ([] : List Int), t126)))
def codec_Plane.T8 : Bool × List (List Nat × List Nat) := (true, [([], []), ([0], [0]), ([], []), ([], []), ([3], [3]), ([], []), ([], []), ([4, 5, 6], [4, 5, 6]), ([7, 7], [7]), ([], []), ([8, 9], [8, 9]), ([10, 8], [10]), ([1, 2, 0, 1, 2, 3, 4, 5, 6, 7, 8, 9, 10, 11], [1, 2]), ([12, 11, 11, 0, 1, 2, 3, 4, 5, 6, 7, 8, 9, 10, 11], [11, 12])])
def codec_Plane.B8 : List Nat := [0, 1, 0, 0, 8, 0, 0, 120, 248, 0, 1016, 2040, 4095, 8191]
theorem codec_Plane.tab8 : rtab .any (opsOf Try.f24 8) = codec_Plane.T8 := by kernel_rfl
theorem codec_Plane.bits8 : waitsOk codec_Plane.T8.2 codec_Plane.B8 = true := by kernel_rfl
set_option maxHeartbeats 8000000 in
set_option maxRecDepth 100000 in
theorem codec_Plane.calls (k : Nat) (a0 : Int) (a1 : Int) (A2 : Option Addr) (c2 : Nat) (l2 : List Int) (r1 : Int) (r2 : Int) (r3 : List Int) (r4 : Int) (w : World) (hr2 : Kd.C (Kd.int .u32) w A2 l2.length l2) (hc2 : l2.length ≤ c2) (h : codec_Plane.f k a0 a1 l2 = some (r1, r2, r3, r4)) :
    Calls Try.prog 24 #[.int .i64 a0, .int .i64 a1, .slice A2 l2.length c2] w fun e w' => ∃ v2_ : Value, e = .returned (.tuple #[.agg #[.int .i64 r1, .int .i64 r2, v2_], .int .i64 r4]) ∧ Kd.R (Kd.int .u32) 24 w' w.heap.size (fun _ => True) v2_ r3 ∧ Below w.heap.size w w' := by
 have hu31 := Try.underlying31
 have HR2 := Aside0.mk hr2
 have HC2 := Aside0.mk hc2
 clear hr2 hc2
 have HB := Aside0.mk (Below.refl w.heap.size w)
 have H : ((plane_Check.f a0 a1 l2).bind fun t126 => (if t126 = 0 then (if 0 ≤ (l2.length : Int) then (if ((l2.length : Int) : Int).toNat ≤ 70368744177664 then (codec_Plane.l0 k a0 l2 (l2.length : Int) 0 a0 a1 (List.replicate ((l2.length : Int) : Int).toNat 0)) else (none)) else (none)) else (some (0, 0, ([] : List Int), t126)))) = some (r1, r2, r3, r4) := h
 clear h
 replace H := Option.bind_eq_some_iff.mp H
 obtain ⟨t126, A40, H⟩ := H
 replace H : (if t126 = 0 then (if 0 ≤ (l2.length : Int) then (if ((l2.length : Int) : Int).toNat ≤ 70368744177664 then (codec_Plane.l0 k a0 l2 (l2.length : Int) 0 a0 a1 (List.replicate ((l2.length : Int) : Int).toNat 0)) else (none)) else (none)) else (some (0, 0, ([] : List Int), t126))) = some (r1, r2, r3, r4) := H
 have A4 := Aside0.mk A40
 clear A40
 by_cases c5 : t126 = 0
 ·rw [if_pos c5] at H
  have c5b0 : (t126 == 0) = true := beq_iff_eq.mpr c5
  have c5b1 : (t126 != 0) = false := bne_eq_false_iff_eq.mpr c5
  clear c5
  by_cases c6 : 0 ≤ (l2.length : Int)
  ·rw [if_pos c6] at H
   have c6b0 := eq_true c6
   have c6b1 : decide (0 ≤ (l2.length : Int)) = true := decide_eq_true c6
   clear c6
   by_cases c7 : ((l2.length : Int) : Int).toNat ≤ 70368744177664
   ·rw [if_pos c7] at H
    have c7b0 := eq_true c7
    have c7b1 : decide (((l2.length : Int) : Int).toNat ≤ 70368744177664) = true := decide_eq_true c7
    clear c7
    obtain ⟨y127, hy127⟩ : ∃ y_ : List Int, y_ = (List.replicate ((l2.length : Int) : Int).toNat 0) := ⟨_, rfl⟩
    replace H : (codec_Plane.l0 k a0 l2 (l2.length : Int) 0 a0 a1 y127) = some (r1, r2, r3, r4) := by first | (rw [hy127]; with_reducible exact H) | (have H2_ := (Option.bind_some _ _).symm.trans H; rw [hy127]; with_reducible exact H2_) | (have H2_ := (Option.bind_some _ _).symm.trans H; with_reducible exact H2_) | with_reducible exact H | (rw [hy127]; exact H) | exact H
    have Ny127 := Aside0.mk hy127
    clear hy127
    have H' := Aside0.mk H
    clear H
    go_enter Try.func24, Try.ntmps24
    go_wp2_with (first | ((with_reducible refine gate_dst (N := 6) rfl ?_); refine box_event ?hg (N := 6) ?hd (cs := #[.int .i64 0, .int .i64 0, .slice none 0 0]) (t := 31) ?hr ?_; (case hd => rfl); (case hg => rfl); (case hr => first | (go_simp; done) | (go_simp; rfl)); intro gb125 hg w8 hbox hb; have n0_ := Aside0.mk (below_step (by repeat (first | (with_reducible first | exact HB.out | apply below_alloc | apply pw_below_drewN | apply below_drew1) | exact HB.out)) hb); have n1_ := Aside0.mk (hbox); have n2_ := Aside0.mk ((by rw [hg]; exact (below_size (by repeat (first | (with_reducible first | exact HB.out | apply below_alloc | apply pw_below_drewN | apply below_drew1) | exact HB.out))) : w.heap.size ≤ gb125)); have n3_ := Aside0.mk ((by rw [hg]; exact (below_size (by repeat (first | (with_reducible first | exact HB.out | apply below_alloc | apply pw_below_drewN | apply below_drew1) | exact HB.out))) : w.heap.size ≤ gb125)); clear HB; have HB := n0_; have BK125 := n1_; have GW125 := n2_; have GE125 := n3_; clear n0_ n1_ n2_ n3_; clear hb hbox hg) | ((with_reducible refine gate_callee (f := 52) rfl ?_); refine goesL_ (some 16) rfl rfl Try.func52 (by kernel_rfl) rfl #[.agg #[.int .i64 a0, .int .i64 a1, .slice A2 l2.length c2]] rfl (by (try simp only [List.map_toArray, List.map_cons, List.map_nil]); first | done | rfl | (simp only [List.length_drop, List.length_take]; rfl)) ?_; (with_reducible refine (plane_Check.calls a0 a1 _ _ l2 t126 _ ?side1 ?side2 A4.out).mono ?_); (case side1 => repeat (first | exact (Kd.C_below HR2.out HB.out) | (with_reducible refine Kd.C_alloc ?_ _) | (with_reducible refine Kd.C_drewN ?_ _) | (with_reducible refine Kd.C_drew ?_))); (case side2 => exact HC2.out); rintro e w9 ⟨rfl, hb⟩; refine ⟨_, rfl, ?_⟩; have n0_ := Aside0.mk (blk_below (g := gb125) (o := .cells #[.int .i64 0, .int .i64 0, .slice none 0 0] 31 (0, 0)) (by (with_reducible repeat (first | refine blk_drewN ?_ _ | refine blk_drew ?_ | refine blk_alloc ?_ _)); exact BK125.out) hb); have n1_ := Aside0.mk (below_step (by repeat (first | (with_reducible first | exact HB.out | apply below_alloc | apply pw_below_drewN | apply below_drew1 | refine below_set ?_ GE125.out) | exact HB.out)) hb); clear BK125; clear HB; have BK125 := n0_; have HB := n1_; clear n0_ n1_; (try clear hb); (try clear hb2); (try clear hk); (try clear hi)) | ((with_reducible refine gate_dst (N := 25) rfl ?_); refine Kd.R_make (Kd.int .u32) _ 24 rfl (N := 25) rfl 29 _ _ rfl (l2.length : Int) rfl rfl Try.underlying29 (.int .u32 0) 4 info24 rfl (by decide) (by omega) 0 (ok := fun _ => True) (okp := fun _ => True) rfl (fun _ hk => hk) trivial (of_decide_eq_true (by first | (with_reducible assumption) | assumption)) (Nat.le_trans (Nat.mul_le_mul_right _ (of_decide_eq_true (by first | (with_reducible assumption) | assumption) : (l2.length : Int).toNat ≤ 70368744177664)) (by omega)) (Below.refl _ _) (Nat.le_refl _) ?_; intro v128 w10 ho11 hb hg_ hnew_; clear hg_ hnew_; (first | rw [← Ny127.out] at ho11 | (simp only [Int.reduceToNat] at ho11; rw [← Ny127.out] at ho11)); have n0_ := Aside0.mk (Kd.R_lower ho11 (below_size (by repeat (first | (with_reducible first | exact HB.out | apply below_alloc | apply pw_below_drewN | apply below_drew1 | refine below_set ?_ GE125.out) | exact HB.out)))); have n1_ := Aside0.mk (blk_below (g := gb125) (o := .cells #[.int .i64 0, .int .i64 0, .slice none 0 0] 31 (0, 0)) (by (with_reducible repeat (first | refine blk_drewN ?_ _ | refine blk_drew ?_ | refine blk_alloc ?_ _)); exact BK125.out) hb); have n2_ := Aside0.mk (below_step (by repeat (first | (with_reducible first | exact HB.out | apply below_alloc | apply pw_below_drewN | apply below_drew1 | refine below_set ?_ GE125.out) | exact HB.out)) hb); clear BK125; clear HB; have HO129 := n0_; have BK125 := n1_; have HB := n2_; clear n0_ n1_ n2_; clear hb ho11; obtain ⟨Ao12, co12, eo12⟩ := Kd.R_slice HO129.out; subst eo12) | ((with_reducible refine gate_dst (N := 9) rfl ?_); refine box_event ?hg (N := 9) ?hd (cs := #[.int .i64 0, .int .i64 0, .slice none 0 0]) (t := 31) ?hr ?_; (case hd => rfl); (case hg => rfl); (case hr => first | (go_simp; done) | (go_simp; rfl)); intro gb130 hg w13 hbox hb; have n0_ := Aside0.mk (Kd.R_below (by (with_reducible repeat (first | apply Kd.R_alloc | apply Kd.R_drewN | apply Kd.R_drew)); exact HO129.out) hb); have n1_ := Aside0.mk (blk_below (g := gb125) (o := .cells #[.int .i64 0, .int .i64 0, .slice none 0 0] 31 (0, 0)) (by (with_reducible repeat (first | refine blk_drewN ?_ _ | refine blk_drew ?_ | refine blk_alloc ?_ _)); exact BK125.out) hb); have n2_ := Aside0.mk (below_step (by repeat (first | (with_reducible first | exact HB.out | apply below_alloc | apply pw_below_drewN | apply below_drew1 | refine below_set ?_ GE125.out) | exact HB.out)) hb); have n3_ := Aside0.mk (hbox); have n4_ := Aside0.mk ((by rw [hg]; exact (below_size (by repeat (first | (with_reducible first | exact HB.out | apply below_alloc | apply pw_below_drewN | apply below_drew1 | refine below_set ?_ GE125.out) | exact HB.out))) : w.heap.size ≤ gb130)); have n5_ := Aside0.mk ((by rw [hg]; exact (below_size (by repeat (first | (with_reducible first | exact HB.out | apply below_alloc | apply pw_below_drewN | apply below_drew1 | refine below_set ?_ GE125.out) | exact HB.out))) : w.heap.size ≤ gb130)); have n6_ := Aside0.mk ((by rw [hg]; exact Nat.ne_of_lt (blk_lt (g := gb125) (o := .cells #[.int .i64 0, .int .i64 0, .slice none 0 0] 31 (0, 0)) (by (with_reducible repeat (first | refine blk_drewN ?_ _ | refine blk_drew ?_ | refine blk_alloc ?_ _)); exact BK125.out)) : gb125 ≠ gb130)); have n7_ := Aside0.mk ((by rw [hg]; exact Nat.ne_of_gt (blk_lt (g := gb125) (o := .cells #[.int .i64 0, .int .i64 0, .slice none 0 0] 31 (0, 0)) (by (with_reducible repeat (first | refine blk_drewN ?_ _ | refine blk_drew ?_ | refine blk_alloc ?_ _)); exact BK125.out)) : gb130 ≠ gb125)); clear HO129; clear BK125; clear HB; have HO129 := n0_; have BK125 := n1_; have HB := n2_; have BK130 := n3_; have GW130 := n4_; have GE130 := n5_; have NB125_130 := n6_; have NB130_125 := n7_; clear n0_ n1_ n2_ n3_ n4_ n5_ n6_ n7_; clear hb hbox hg; have hnb14 := NB130_125.out; have hnc14 := NB125_130.out; have hcz15_0 : w13.cell? ⟨gb130, 0, none⟩ = some (.int .i64 0) := (blk_cell BK130.out 0).trans rfl; have hcz15_1 : w13.cell? ⟨gb130, 1, none⟩ = some (.int .i64 0) := (blk_cell BK130.out 1).trans rfl; have hcz15_2 : w13.cell? ⟨gb130, 2, none⟩ = some (.slice none 0 0) := (blk_cell BK130.out 2).trans rfl; have hfz15_0 := blk_frozen BK130.out 0; have hfz15_1 := blk_frozen BK130.out 1; have hfz15_2 := blk_frozen BK130.out 2))
    go_loopg [29] k (fun kq v29 w' => ∃ (x29_1 : Int) (x131002_1 : List Int) (u131002 : Value), v29 = .int .i64 x29_1 ∧ Aside0 (codec_Plane.l0 kq a0 l2 (l2.length : Int) x29_1 a0 a1 x131002_1 = some (r1, r2, r3, r4)) ∧ Aside0 (kq ≤ k) ∧ Aside0 (Kd.R (Kd.int .u32) 24 w' w.heap.size (fun _ => True) u131002 x131002_1) ∧ Aside0 (w'.heap[gb125]? = some (.cells #[.int .i64 0, .int .i64 0, (.slice none 0 0)] 31 (0, 0))) ∧ Aside0 (w'.heap[gb130]? = some (.cells #[.int .i64 a0, .int .i64 a1, u131002] 31 (0, 0))) ∧ Aside0 (Below w.heap.size w w'))
    case atStart => exact ⟨(0), (y127), (.slice Ao12 y127.length co12), (by first | rfl | (simp; done) | (simp [*]; done)), H', ⟨Nat.le_refl _⟩, ⟨by (with_reducible repeat (first | apply Kd.R_alloc | apply Kd.R_drewN | apply Kd.R_drew)); exact Kd.R_mono (Kd.R_far (p := ⟨gb130, 2, none⟩) (Kd.R_far (p := ⟨gb130, 1, none⟩) (Kd.R_far (p := ⟨gb130, 0, none⟩) (Kd.R_types HO129.out BK130.out (by decide)) (fun _ hk => hk.2) (.int .i64 a0)) (fun _ hk => hk.2) (.int .i64 a1)) (fun _ hk => hk.2) (.slice Ao12 y127.length co12)) (fun _ hk => trivial)⟩, ⟨by (with_reducible repeat (first | refine blk_drewN ?_ _ | refine blk_drew ?_ | refine blk_alloc ?_ _)); refine blk_far ?_ NB125_130.out _; (with_reducible repeat (first | refine blk_drewN ?_ _ | refine blk_drew ?_ | refine blk_alloc ?_ _)); refine blk_far ?_ NB125_130.out _; (with_reducible repeat (first | refine blk_drewN ?_ _ | refine blk_drew ?_ | refine blk_alloc ?_ _)); refine blk_far ?_ NB125_130.out _; (with_reducible repeat (first | refine blk_drewN ?_ _ | refine blk_drew ?_ | refine blk_alloc ?_ _)); exact BK125.out⟩, ⟨by (with_reducible repeat (first | refine blk_drewN ?_ _ | refine blk_drew ?_ | refine blk_alloc ?_ _)); refine blk_put (cs := #[.int .i64 a0, .int .i64 a1, .slice none 0 0]) ?_ 2 _ rfl; (with_reducible repeat (first | refine blk_drewN ?_ _ | refine blk_drew ?_ | refine blk_alloc ?_ _)); refine blk_put (cs := #[.int .i64 a0, .int .i64 0, .slice none 0 0]) ?_ 1 _ rfl; (with_reducible repeat (first | refine blk_drewN ?_ _ | refine blk_drew ?_ | refine blk_alloc ?_ _)); refine blk_put (cs := #[.int .i64 0, .int .i64 0, .slice none 0 0]) ?_ 0 _ rfl; (with_reducible repeat (first | refine blk_drewN ?_ _ | refine blk_drew ?_ | refine blk_alloc ?_ _)); exact BK130.out⟩, ⟨by repeat (first | (with_reducible first | exact HB.out | apply below_alloc | apply pw_below_drewN | apply below_drew1 | refine below_set ?_ GE125.out | refine below_set ?_ GE130.out) | exact HB.out)⟩⟩
    case round =>
     clear H'
     try clear c1
     try clear c2
     try clear p2
     try clear c5
     try clear c5b0
     try clear c5b1
     try clear c6
     try clear c6b0
     try clear c6b1
     try clear c7
     try clear c7b0
     try clear c7b1
     try clear c14
     try clear hcz15_0
     try clear hcz15_1
     try clear hcz15_2
     try clear hfz15_0
     try clear hfz15_1
     try clear hfz15_2
     obtain ⟨x29_1, x131002_1, u131002, rfl, HA, HK1, HO_131002, BK125, BK130, HB⟩ := hrel
     cases gk with
     | zero => exact absurd HA.out (by simp [codec_Plane.l0])
     | succ k1 =>
      have H := HA.out
      clear HA
      simp only [codec_Plane.l0] at H
      by_cases c16 : x29_1 < (l2.length : Int)
      ·rw [if_pos c16] at H
       have c16b0 : decide (x29_1 < (l2.length : Int)) = true := decide_eq_true c16
       clear c16
       by_cases c17 : 0 ≤ x29_1
       ·rw [if_pos c17] at H
        have c17b0 : decide (0 ≤ x29_1) = true := decide_eq_true c17
        clear c17
        by_cases c18 : x29_1 < (l2.length : Int)
        ·rw [if_pos c18] at H
         have c18b0 : decide (x29_1 < (l2.length : Int)) = true := decide_eq_true c18
         clear c18
         replace H := Option.bind_eq_some_iff.mp H
         obtain ⟨t132, A190, H⟩ := H
         replace H : ((bits_Key.f t132).bind fun t133 => ((bits_FromKey.f ((t133 + (rd l2 x29_1)) % 4294967296)).bind fun t134 => (if x29_1 < (x131002_1.length : Int) then (codec_Plane.l0 k1 a0 l2 (l2.length : Int) (wrap64 (x29_1 + 1)) a0 a1 (x131002_1.set (x29_1 : Int).toNat t134)) else (none)))) = some (r1, r2, r3, r4) := H
         have A19 := Aside0.mk A190
         clear A190
         replace H := Option.bind_eq_some_iff.mp H
         obtain ⟨t133, A200, H⟩ := H
         replace H : ((bits_FromKey.f ((t133 + (rd l2 x29_1)) % 4294967296)).bind fun t134 => (if x29_1 < (x131002_1.length : Int) then (codec_Plane.l0 k1 a0 l2 (l2.length : Int) (wrap64 (x29_1 + 1)) a0 a1 (x131002_1.set (x29_1 : Int).toNat t134)) else (none))) = some (r1, r2, r3, r4) := H
         have A20 := Aside0.mk A200
         clear A200
         replace H := Option.bind_eq_some_iff.mp H
         obtain ⟨t134, A210, H⟩ := H
         replace H : (if x29_1 < (x131002_1.length : Int) then (codec_Plane.l0 k1 a0 l2 (l2.length : Int) (wrap64 (x29_1 + 1)) a0 a1 (x131002_1.set (x29_1 : Int).toNat t134)) else (none)) = some (r1, r2, r3, r4) := H
         have A21 := Aside0.mk A210
         clear A210
         by_cases c22 : x29_1 < (x131002_1.length : Int)
         ·rw [if_pos c22] at H
          have c22b0 : decide (x29_1 < (x131002_1.length : Int)) = true := decide_eq_true c22
          clear c22
          obtain ⟨y135, hy135⟩ : ∃ y_ : List Int, y_ = (x131002_1.set (x29_1 : Int).toNat t134) := ⟨_, rfl⟩
          replace H : (codec_Plane.l0 k1 a0 l2 (l2.length : Int) (wrap64 (x29_1 + 1)) a0 a1 y135) = some (r1, r2, r3, r4) := by first | (rw [hy135]; with_reducible exact H) | (have H2_ := (Option.bind_some _ _).symm.trans H; rw [hy135]; with_reducible exact H2_) | (have H2_ := (Option.bind_some _ _).symm.trans H; with_reducible exact H2_) | with_reducible exact H | (rw [hy135]; exact H) | exact H
          have Ny135 := Aside0.mk hy135
          clear hy135
          have H' := Aside0.mk H
          clear H
          have p131 : 0 ≤ (x29_1 : Int) := of_decide_eq_true (by first | (with_reducible assumption) | assumption)
          have q131 : x29_1 < (l2.length : Int) := of_decide_eq_true (by first | (with_reducible assumption) | assumption)
          obtain ⟨ad131, e131, hx131_0⟩ := Kd.at_int HR2.out x29_1 p131 q131
          cases e131
          replace hx131_0 := (HB.out.cell (World.block_lt_of_cell? w _ hx131_0)).trans hx131_0
          replace p131 := eq_true p131
          replace q131 := eq_true q131
          try go_wp2
          have n0_ := Aside0.mk (Kd.R_drew HO_131002.out)
          have n1_ := Aside0.mk (blk_drew BK125.out)
          have n2_ := Aside0.mk (blk_drew BK130.out)
          have n3_ := Aside0.mk (below_drew1 HB.out)
          clear HO_131002
          clear BK125
          clear BK130
          clear HB
          have HO_131002 := n0_
          have BK125 := n1_
          have BK130 := n2_
          have HB := n3_
          clear n0_ n1_ n2_ n3_
          obtain ⟨Ao25, co25, eo25⟩ := Kd.R_slice HO_131002.out
          (first | subst eo25 | (injection eo25 with f1_ f2_ f3_; have f4_ := f1_.symm; have f5_ := f3_.symm; clear f1_ f2_ f3_; subst f4_; subst f5_))
          refine start_ (n := 14) (S := fun w' => w'.cell? ⟨gb130, 0, none⟩ = some (.int .i64 a0) ∧ w'.cell? ⟨gb130, 1, none⟩ = some (.int .i64 a1) ∧ w'.cell? ⟨gb130, 2, none⟩ = some (.slice Ao25 x131002_1.length co25)) (ds := [13]) #[ff_,ff_,ff_,ff_,ff_,ff_,ff_,ff_,ff_,ff_,ff_,ff_,ff_,ff_] (by kernel_rfl) rfl rfl ⟨(blk_cell BK130.out 0).trans rfl, (blk_cell BK130.out 1).trans rfl, (blk_cell BK130.out 2).trans rfl⟩ (fun hHeld => ?_); refine with_tabW codec_Plane.tab8 codec_Plane.bits8 (fun HT_ HW_ => ?_)
          generalize wr.drew = w24 at HO_131002 BK125 BK130 HB hHeld ⊢
          refine pure_ (i := 0) (N := some 34) (v := ?_) (a' := ?_) #[tt_,ff_,ff_,ff_,ff_,ff_,ff_,ff_,ff_,ff_,ff_,ff_,ff_,ff_] rfl rfl (any_of HT_.out (by kernel_rfl)) (fun _ _ _ h => h) (Or.inl ⟨by rfl, ?_⟩) ?_ ?_
          rotate_left
          ·intro w'
           go_simp
           with_reducible rfl
          rotate_left
          ·simp only [Act.put, List.setIfInBounds_toArray, List.set_cons_zero, List.set_cons_succ, i64_w, i32_w]
           rfl
          refine pure_ (i := 2) (N := some 36) (v := ?_) (a' := ?_) #[tt_,ff_,tt_,ff_,ff_,ff_,ff_,ff_,ff_,ff_,ff_,ff_,ff_,ff_] rfl rfl (any_of HT_.out (by kernel_rfl)) (fun _ _ _ h => h) (Or.inl ⟨by rfl, ?_⟩) ?_ ?_
          rotate_left
          ·intro w'
           go_simp
           with_reducible rfl
          rotate_left
          ·simp only [Act.put, List.setIfInBounds_toArray, List.set_cons_zero, List.set_cons_succ, i64_w, i32_w]
           rfl
          refine pure_ (i := 3) (N := some 37) (v := ?_) (a' := ?_) #[tt_,ff_,tt_,tt_,ff_,ff_,ff_,ff_,ff_,ff_,ff_,ff_,ff_,ff_] rfl rfl (any_of HT_.out (by kernel_rfl)) (fun _ _ _ h => h) (Or.inl ⟨by rfl, ?_⟩) ?_ ?_
          rotate_left
          ·intro w'
           go_simp
           with_reducible rfl
          rotate_left
          ·simp only [Act.put, List.setIfInBounds_toArray, List.set_cons_zero, List.set_cons_succ, i64_w, i32_w]
           rfl
          refine pure_ (i := 5) (N := some 39) (v := ?_) (a' := ?_) #[tt_,ff_,tt_,tt_,ff_,tt_,ff_,ff_,ff_,ff_,ff_,ff_,ff_,ff_] rfl rfl (any_of HT_.out (by kernel_rfl)) (fun _ _ _ h => h) (Or.inl ⟨by rfl, ?_⟩) ?_ ?_
          rotate_left
          ·intro w'
           go_simp
           with_reducible rfl
          rotate_left
          ·simp only [Act.put, List.setIfInBounds_toArray, List.set_cons_zero, List.set_cons_succ, i64_w, i32_w]
           rfl
          refine pure_ (i := 6) (N := some 40) (v := ?_) (a' := ?_) #[tt_,ff_,tt_,tt_,ff_,tt_,tt_,ff_,ff_,ff_,ff_,ff_,ff_,ff_] rfl rfl (any_of HT_.out (by kernel_rfl)) (fun _ _ _ h => h) (Or.inl ⟨by rfl, ?_⟩) ?_ ?_
          rotate_left
          ·intro w'
           go_simp
           with_reducible rfl
          rotate_left
          ·simp only [Act.put, List.setIfInBounds_toArray, List.set_cons_zero, List.set_cons_succ, i64_w, i32_w]
           rfl
          refine pure_ (i := 9) (N := some 43) (v := ?_) (a' := ?_) #[tt_,ff_,tt_,tt_,ff_,tt_,tt_,ff_,ff_,tt_,ff_,ff_,ff_,ff_] rfl rfl (any_of HT_.out (by kernel_rfl)) (fun _ _ _ h => h) (Or.inl ⟨by rfl, ?_⟩) ?_ ?_
          rotate_left
          ·intro w'
           go_simp
           with_reducible rfl
          rotate_left
          ·simp only [Act.put, List.setIfInBounds_toArray, List.set_cons_zero, List.set_cons_succ, i64_w, i32_w]
           rfl
          refine take_ (i := 1) (N := some 35) (v := ?_) (a' := ?_) #[tt_,tt_,tt_,tt_,ff_,tt_,tt_,ff_,ff_,tt_,ff_,ff_,ff_,ff_] rfl rfl (take_ofW HT_.out HW_.out (by kernel_rfl)) (fun _ _ _ h => h) (Or.inl ⟨by rfl, ?_⟩) hHeld ?_ ?_
          rotate_left
          ·rintro w' ⟨s0, s1, s2⟩
           go_simp
           with_reducible rfl
          rotate_left
          ·simp only [Act.put, List.setIfInBounds_toArray, List.set_cons_zero, List.set_cons_succ, i64_w, i32_w]
           rfl
          refine take_ (i := 4) (N := some 38) (v := ?_) (a' := ?_) #[tt_,tt_,tt_,tt_,tt_,tt_,tt_,ff_,ff_,tt_,ff_,ff_,ff_,ff_] rfl rfl (take_ofW HT_.out HW_.out (by kernel_rfl)) (fun _ _ _ h => h) (Or.inl ⟨by rfl, ?_⟩) hHeld ?_ ?_
          rotate_left
          ·rintro w' ⟨s0, s1, s2⟩
           go_simp
           with_reducible rfl
          rotate_left
          ·simp only [Act.put, List.setIfInBounds_toArray, List.set_cons_zero, List.set_cons_succ, i64_w, i32_w]
           rfl
          refine one_ (i := 7) (N := some 41) #[tt_,tt_,tt_,tt_,tt_,tt_,tt_,tt_,ff_,tt_,ff_,ff_,ff_,ff_] rfl rfl (one_of HT_.out (by kernel_rfl)) (by decide) (fun K hK => ?_)
          refine goes_ Try.func53 (by kernel_rfl) rfl #[.slice Ao25 x131002_1.length co25, .int .i64 a0, .int .i64 x29_1] (by rfl) rfl rfl (by (try simp only [List.map_toArray, List.map_cons, List.map_nil]); first | done | rfl | (simp only [List.length_drop, List.length_take]; rfl)) ?_
          with_reducible refine (codec_guessed.calls k1 _ _ x131002_1 a0 x29_1 t132 _ ?side1 ?side2 A19.out).mono ?_
          (case side1 => repeat (first | exact (Kd.R_reads' HO_131002.out).2.2 | (with_reducible refine Kd.C_alloc ?_ _) | (with_reducible refine Kd.C_drewN ?_ _) | (with_reducible refine Kd.C_drew ?_)))
          (case side2 => exact (Kd.R_reads' HO_131002.out).2.1)
          rintro e w26 ⟨rfl, hb⟩
          refine ⟨_, rfl, ?_⟩
          have n0_ := Aside0.mk (Kd.R_below (by (with_reducible repeat (first | apply Kd.R_alloc | apply Kd.R_drewN | apply Kd.R_drew)); exact HO_131002.out) hb)
          have n1_ := Aside0.mk (blk_below (g := gb125) (o := .cells #[.int .i64 0, .int .i64 0, .slice none 0 0] 31 (0, 0)) (by (with_reducible repeat (first | refine blk_drewN ?_ _ | refine blk_drew ?_ | refine blk_alloc ?_ _)); exact BK125.out) hb)
          have n2_ := Aside0.mk (blk_below (g := gb130) (o := .cells #[.int .i64 a0, .int .i64 a1, .slice Ao25 x131002_1.length co25] 31 (0, 0)) (by (with_reducible repeat (first | refine blk_drewN ?_ _ | refine blk_drew ?_ | refine blk_alloc ?_ _)); exact BK130.out) hb)
          have n3_ := Aside0.mk (below_step (by repeat (first | (with_reducible first | exact HB.out | apply below_alloc | apply pw_below_drewN | apply below_drew1 | refine below_set ?_ GE125.out | refine below_set ?_ GE130.out) | exact HB.out)) hb)
          clear HO_131002
          clear BK125
          clear BK130
          clear HB
          have HO_131002 := n0_
          have BK125 := n1_
          have BK130 := n2_
          have HB := n3_
          clear n0_ n1_ n2_ n3_
          (try clear hb)
          (try clear hb2)
          (try clear hk)
          (try clear hi)
          refine hK.out _ _ ⟨(blk_cell BK130.out 0).trans rfl, (blk_cell BK130.out 1).trans rfl, (blk_cell BK130.out 2).trans rfl⟩ (fun hHeld => ?_)
          clear hK K
          refine norm_ (a' := ?_) ?_ ?_
          rotate_left
          ·show Act.put _ (some 41) _ = _
           simp only [Act.put, List.setIfInBounds_toArray, List.set_cons_zero, List.set_cons_succ, i64_w, i32_w]
           rfl
          refine one_ (i := 8) (N := some 42) #[tt_,tt_,tt_,tt_,tt_,tt_,tt_,tt_,tt_,tt_,ff_,ff_,ff_,ff_] rfl rfl (one_of HT_.out (by kernel_rfl)) (by decide) (fun K hK => ?_)
          refine goes_ Try.func47 (by kernel_rfl) rfl #[.int .u32 t132] (by rfl) rfl rfl (by (try simp only [List.map_toArray, List.map_cons, List.map_nil]); first | done | rfl | (simp only [List.length_drop, List.length_take]; rfl)) ?_
          with_reducible refine (bits_Key.calls t132 t133 _ A20.out).mono ?_
          rintro e w' ⟨rfl, ⟨nd, rfl⟩⟩
          refine ⟨_, rfl, ?_⟩
          refine hK.out _ _ ⟨(blk_cell BK130.out 0).trans rfl, (blk_cell BK130.out 1).trans rfl, (blk_cell BK130.out 2).trans rfl⟩ (fun hHeld => ?_)
          clear hK K
          refine norm_ (a' := ?_) ?_ ?_
          rotate_left
          ·show Act.put _ (some 42) _ = _
           simp only [Act.put, List.setIfInBounds_toArray, List.set_cons_zero, List.set_cons_succ, i64_w, i32_w]
           rfl
          refine pure_ (i := 10) (N := some 44) (v := ?_) (a' := ?_) #[tt_,tt_,tt_,tt_,tt_,tt_,tt_,tt_,tt_,tt_,tt_,ff_,ff_,ff_] rfl rfl (any_of HT_.out (by kernel_rfl)) (fun _ _ _ h => h) (Or.inl ⟨by rfl, ?_⟩) ?_ ?_
          rotate_left
          ·intro w'
           go_simp
           with_reducible rfl
          rotate_left
          ·simp only [Act.put, List.setIfInBounds_toArray, List.set_cons_zero, List.set_cons_succ, i64_w, i32_w]
           rfl
          refine one_ (i := 11) (N := some 45) #[tt_,tt_,tt_,tt_,tt_,tt_,tt_,tt_,tt_,tt_,tt_,tt_,ff_,ff_] rfl rfl (one_of HT_.out (by kernel_rfl)) (by decide) (fun K hK => ?_)
          refine goes_ Try.func48 (by kernel_rfl) rfl #[.int .u32 ((t133 + (rd l2 x29_1)) % 4294967296)] (by rfl) rfl rfl (by (try simp only [List.map_toArray, List.map_cons, List.map_nil]); first | done | rfl | (simp only [List.length_drop, List.length_take]; rfl)) ?_
          with_reducible refine (bits_FromKey.calls ((t133 + (rd l2 x29_1)) % 4294967296) t134 _ A21.out).mono ?_
          rintro e w' ⟨rfl, ⟨nd, rfl⟩⟩
          refine ⟨_, rfl, ?_⟩
          have p23 : 0 ≤ (x29_1 : Int) := of_decide_eq_true (by first | (with_reducible assumption) | assumption)
          have q23 : (x29_1 : Int) < ((x131002_1.length : Int) : Int) := of_decide_eq_true (by first | (with_reducible assumption) | assumption)
          obtain ⟨go23, co23, eo23, gb23, gl23, cl23, HG23⟩ := Kd.R_form HO_131002.out (by omega)
          (first | cases eo23 | (injection eo23 with ea_ en_ ec_; (first | subst ea_ | (injection ea_ with ea_; subst ea_)); subst ec_; clear en_))
          have GB23 := Aside0.mk gb23
          have GG23 := Aside0.mk HG23
          clear gb23 gl23 HG23
          obtain ⟨hx23_0, hf23_0⟩ := Kd.R_celln 0 HO_131002.out (x29_1 : Int) p23 q23
          replace p23 := eq_true p23
          replace q23 := eq_true q23
          have HP27 := Kd.R_putn HO_131002.out (x29_1 : Int) t134
          rw [← Ny135.out] at HP27
          have HQ27 := Aside0.mk HP27
          clear HP27
          refine hK.out _ _ ⟨(blk_cell BK130.out 0).trans rfl, (blk_cell BK130.out 1).trans rfl, (blk_cell BK130.out 2).trans rfl⟩ (fun hHeld => ?_)
          clear hK K
          refine norm_ (a' := ?_) ?_ ?_
          rotate_left
          ·show Act.put _ (some 45) _ = _
           simp only [Act.put, List.setIfInBounds_toArray, List.set_cons_zero, List.set_cons_succ, i64_w, i32_w]
           rfl
          refine pure_ (i := 12) (N := some 46) (v := ?_) (a' := ?_) #[tt_,tt_,tt_,tt_,tt_,tt_,tt_,tt_,tt_,tt_,tt_,tt_,tt_,ff_] rfl rfl (any_of HT_.out (by kernel_rfl)) (fun _ _ _ h => h) (Or.inl ⟨by rfl, ?_⟩) ?_ ?_
          rotate_left
          ·intro w'
           go_simp
           with_reducible rfl
          rotate_left
          ·simp only [Act.put, List.setIfInBounds_toArray, List.set_cons_zero, List.set_cons_succ, i64_w, i32_w]
           rfl
          refine last_ (i := 13) (N := none) #[tt_,tt_,tt_,tt_,tt_,tt_,tt_,tt_,tt_,tt_,tt_,tt_,tt_,tt_] rfl rfl (one_of HT_.out (by kernel_rfl)) (by decide) (fun K hK => ?_)
          refine skip_ (w1 := ?_) (by rfl) rfl ?_ ?_
          rotate_left
          ·go_simp
           rfl
          refine hK.out _ _ ?_
          clear hK K
          refine done_ (done_of HT_.out (by kernel_rfl)) ?_
          try go_wp2
          go_roundg k1
          case measure => have := HK1.out; omega
          case rel => exact ⟨(wrap64 (x29_1 + 1)), (y135), (.slice (some ⟨go23, 0, none⟩) x131002_1.length co25), (by first | rfl | (simp; done) | (simp [*]; done)), H', ⟨by have := HK1.out; omega⟩, ⟨by (with_reducible repeat (first | apply Kd.R_alloc | apply Kd.R_drewN | apply Kd.R_drew)); exact HQ27.out⟩, ⟨by (with_reducible repeat (first | refine blk_drewN ?_ _ | refine blk_drew ?_ | refine blk_alloc ?_ _)); refine blk_far ?_ (by have h_ := Kd.R_ne HO_131002.out BK125.out (by decide); intro e_; exact h_ (by rw [e_]; rfl)) _; (with_reducible repeat (first | refine blk_drewN ?_ _ | refine blk_drew ?_ | refine blk_alloc ?_ _)); exact BK125.out⟩, ⟨by (with_reducible repeat (first | refine blk_drewN ?_ _ | refine blk_drew ?_ | refine blk_alloc ?_ _)); refine blk_far ?_ (by have h_ := Kd.R_ne HO_131002.out BK130.out (by decide); intro e_; exact h_ (by rw [e_]; rfl)) _; (with_reducible repeat (first | refine blk_drewN ?_ _ | refine blk_drew ?_ | refine blk_alloc ?_ _)); exact BK130.out⟩, ⟨by repeat (first | (with_reducible first | exact HB.out | apply below_alloc | apply pw_below_drewN | apply below_drew1 | refine below_set ?_ GB23.out | refine below_set ?_ GE125.out | refine below_set ?_ GE130.out) | exact HB.out)⟩⟩
         ·rw [if_neg c22] at H
          exact absurd H (by simp)
        ·rw [if_neg c18] at H
         exact absurd H (by simp)
       ·rw [if_neg c17] at H
        exact absurd H (by simp)
      ·rw [if_neg c16] at H
       have c16b0 : decide (x29_1 < (l2.length : Int)) = false := decide_eq_false c16
       clear c16
       simp only [Option.some.injEq, Prod.mk.injEq] at H
       obtain ⟨rfl, rfl, rfl, rfl⟩ := H
       have hnb28 := NB130_125.out
       have hnc28 := NB125_130.out
       have hcz29_0 : wr.cell? ⟨gb130, 0, none⟩ = some (.int .i64 a0) := (blk_cell BK130.out 0).trans rfl
       have hcz29_1 : wr.cell? ⟨gb130, 1, none⟩ = some (.int .i64 a1) := (blk_cell BK130.out 1).trans rfl
       have hcz29_2 : wr.cell? ⟨gb130, 2, none⟩ = some (u131002) := (blk_cell BK130.out 2).trans rfl
       have hfz29_0 := blk_frozen BK130.out 0
       have hfz29_1 := blk_frozen BK130.out 1
       have hfz29_2 := blk_frozen BK130.out 2
       have hcz30_0 : wr.cell? ⟨gb125, 0, none⟩ = some (.int .i64 0) := (blk_cell BK125.out 0).trans rfl
       have hcz30_1 : wr.cell? ⟨gb125, 1, none⟩ = some (.int .i64 0) := (blk_cell BK125.out 1).trans rfl
       have hcz30_2 : wr.cell? ⟨gb125, 2, none⟩ = some (.slice none 0 0) := (blk_cell BK125.out 2).trans rfl
       have hfz30_0 := blk_frozen BK125.out 0
       have hfz30_1 := blk_frozen BK125.out 1
       have hfz30_2 := blk_frozen BK125.out 2
       obtain ⟨Ao31, co31, eo31⟩ := Kd.R_slice HO_131002.out
       subst eo31
       go_wp2
       refine bodyPost_ret (results_ct rfl _ _ gb125 31 #[.int .i64 a0, .int .i64 a1, .slice Ao31 x131002_1.length co31] (0, 0) _ rfl (by (with_reducible repeat (first | refine blk_drewN ?_ _ | refine blk_drew ?_ | refine blk_alloc ?_ _)); refine blk_put (cs := #[.int .i64 a0, .int .i64 a1, .slice none 0 0]) ?_ 2 _ rfl; (with_reducible repeat (first | refine blk_drewN ?_ _ | refine blk_drew ?_ | refine blk_alloc ?_ _)); refine blk_put (cs := #[.int .i64 a0, .int .i64 0, .slice none 0 0]) ?_ 1 _ rfl; (with_reducible repeat (first | refine blk_drewN ?_ _ | refine blk_drew ?_ | refine blk_alloc ?_ _)); refine blk_put (cs := #[.int .i64 0, .int .i64 0, .slice none 0 0]) ?_ 0 _ rfl; (with_reducible repeat (first | refine blk_drewN ?_ _ | refine blk_drew ?_ | refine blk_alloc ?_ _)); exact BK125.out) Try.underlying31 rfl (by kernel_rfl)) rfl ?_
       exact ⟨_, by first | rfl | (simp [errW_none, errW_some] <;> rfl) | (simp [*, errW_none, errW_some] <;> rfl), by (with_reducible repeat (first | apply Kd.R_alloc | apply Kd.R_drewN | apply Kd.R_drew)); exact Kd.R_mono (Kd.R_far (p := ⟨gb125, 2, none⟩) (Kd.R_far (p := ⟨gb125, 1, none⟩) (Kd.R_far (p := ⟨gb125, 0, none⟩) (Kd.R_types HO_131002.out BK125.out (by decide)) (fun _ hk => hk.2) (.int .i64 a0)) (fun _ hk => hk.2) (.int .i64 a1)) (fun _ hk => hk.2) (.slice Ao31 x131002_1.length co31)) (fun _ hk => trivial), by repeat (first | (with_reducible first | exact HB.out | apply below_alloc | apply pw_below_drewN | apply below_drew1 | refine below_set ?_ GE125.out | refine below_set ?_ GE130.out) | exact HB.out)⟩
   ·rw [if_neg c7] at H
    exact absurd H (by simp)
  ·rw [if_neg c6] at H
   exact absurd H (by simp)
 ·rw [if_neg c5] at H
  have c5b0 : (t126 == 0) = false := beq_eq_false_iff_ne.mpr c5
  have c5b1 : (t126 != 0) = true := bne_iff_ne.mpr c5
  simp only [Option.some.injEq, Prod.mk.injEq] at H
  obtain ⟨rfl, rfl, rfl, rfl⟩ := H
  go_enter Try.func24, Try.ntmps24
  go_wp2_with (first | ((with_reducible refine gate_dst (N := 6) rfl ?_); refine box_event ?hg (N := 6) ?hd (cs := #[.int .i64 0, .int .i64 0, .slice none 0 0]) (t := 31) ?hr ?_; (case hd => rfl); (case hg => rfl); (case hr => first | (go_simp; done) | (go_simp; rfl)); intro gb125 hg w32 hbox hb; have n0_ := Aside0.mk (below_step (by repeat (first | (with_reducible first | exact HB.out | apply below_alloc | apply pw_below_drewN | apply below_drew1) | exact HB.out)) hb); have n1_ := Aside0.mk (hbox); have n2_ := Aside0.mk ((by rw [hg]; exact (below_size (by repeat (first | (with_reducible first | exact HB.out | apply below_alloc | apply pw_below_drewN | apply below_drew1) | exact HB.out))) : w.heap.size ≤ gb125)); have n3_ := Aside0.mk ((by rw [hg]; exact (below_size (by repeat (first | (with_reducible first | exact HB.out | apply below_alloc | apply pw_below_drewN | apply below_drew1) | exact HB.out))) : w.heap.size ≤ gb125)); clear HB; have HB := n0_; have BK125 := n1_; have GW125 := n2_; have GE125 := n3_; clear n0_ n1_ n2_ n3_; clear hb hbox hg) | ((with_reducible refine gate_callee (f := 52) rfl ?_); refine goesL_ (some 16) rfl rfl Try.func52 (by kernel_rfl) rfl #[.agg #[.int .i64 a0, .int .i64 a1, .slice A2 l2.length c2]] rfl (by (try simp only [List.map_toArray, List.map_cons, List.map_nil]); first | done | rfl | (simp only [List.length_drop, List.length_take]; rfl)) ?_; (with_reducible refine (plane_Check.calls a0 a1 _ _ l2 t126 _ ?side1 ?side2 A4.out).mono ?_); (case side1 => repeat (first | exact (Kd.C_below HR2.out HB.out) | (with_reducible refine Kd.C_alloc ?_ _) | (with_reducible refine Kd.C_drewN ?_ _) | (with_reducible refine Kd.C_drew ?_))); (case side2 => exact HC2.out); rintro e w33 ⟨rfl, hb⟩; refine ⟨_, rfl, ?_⟩; have n0_ := Aside0.mk (blk_below (g := gb125) (o := .cells #[.int .i64 0, .int .i64 0, .slice none 0 0] 31 (0, 0)) (by (with_reducible repeat (first | refine blk_drewN ?_ _ | refine blk_drew ?_ | refine blk_alloc ?_ _)); exact BK125.out) hb); have n1_ := Aside0.mk (below_step (by repeat (first | (with_reducible first | exact HB.out | apply below_alloc | apply pw_below_drewN | apply below_drew1 | refine below_set ?_ GE125.out) | exact HB.out)) hb); clear BK125; clear HB; have BK125 := n0_; have HB := n1_; clear n0_ n1_; (try clear hb); (try clear hb2); (try clear hk); (try clear hi); have hcz34_0 : w33.cell? ⟨gb125, 0, none⟩ = some (.int .i64 0) := (blk_cell BK125.out 0).trans rfl; have hcz34_1 : w33.cell? ⟨gb125, 1, none⟩ = some (.int .i64 0) := (blk_cell BK125.out 1).trans rfl; have hcz34_2 : w33.cell? ⟨gb125, 2, none⟩ = some (.slice none 0 0) := (blk_cell BK125.out 2).trans rfl; have hfz34_0 := blk_frozen BK125.out 0; have hfz34_1 := blk_frozen BK125.out 1; have hfz34_2 := blk_frozen BK125.out 2))
  refine bodyPost_ret (results_ct rfl _ _ gb125 31 #[.int .i64 0, .int .i64 0, .slice none 0 0] (0, 0) _ rfl (by (with_reducible repeat (first | refine blk_drewN ?_ _ | refine blk_drew ?_ | refine blk_alloc ?_ _)); refine blk_put (cs := #[.int .i64 0, .int .i64 0, .slice none 0 0]) ?_ 2 _ rfl; (with_reducible repeat (first | refine blk_drewN ?_ _ | refine blk_drew ?_ | refine blk_alloc ?_ _)); refine blk_put (cs := #[.int .i64 0, .int .i64 0, .slice none 0 0]) ?_ 1 _ rfl; (with_reducible repeat (first | refine blk_drewN ?_ _ | refine blk_drew ?_ | refine blk_alloc ?_ _)); refine blk_put (cs := #[.int .i64 0, .int .i64 0, .slice none 0 0]) ?_ 0 _ rfl; (with_reducible repeat (first | refine blk_drewN ?_ _ | refine blk_drew ?_ | refine blk_alloc ?_ _)); exact BK125.out) Try.underlying31 rfl (by kernel_rfl)) rfl ?_
  exact ⟨_, by first | rfl | (simp [errW_none, errW_some] <;> rfl) | (simp [*, errW_none, errW_some] <;> rfl), by first | exact Kd.R_nil _ _ _ _ _ | exact Kd.N_nil _ _ _ _ _ | exact Kd.V_nil _ _ _ _ _ | exact Kd.Q_nil _ _ _ _ _ | exact Kd.S_nil _ _ _ _ _, by repeat (first | (with_reducible first | exact HB.out | apply below_alloc | apply pw_below_drewN | apply below_drew1 | refine below_set ?_ GE125.out) | exact HB.out)⟩

def halidehelp_Words.l0 : Nat → List Int → List Int → Int → Option (Bool)
 | 0, _, _, _ => none
 | k + 1, x0, x1, x5 => if x5 < (x0.length : Int) then (if 0 ≤ x5 then (if x5 < (x1.length : Int) then (if (rd x0 x5) = (rd x1 x5) then (halidehelp_Words.l0 k x0 x1 (wrap64 (x5 + 1))) else (some false)) else (none)) else (none)) else (some true)
def halidehelp_Words.f (k : Nat) (l0 : List Int) (l1 : List Int) : Option (Bool) := if (l0.length : Int) = (l1.length : Int) then (halidehelp_Words.l0 k l0 l1 0) else (some false)
set_option maxHeartbeats 8000000 in
set_option maxRecDepth 100000 in
theorem halidehelp_Words.calls (k : Nat) (A0 : Option Addr) (c0 : Nat) (l0 : List Int) (A1 : Option Addr) (c1 : Nat) (l1 : List Int) (r : Bool) (w : World) (hr0 : Kd.C (Kd.int .u32) w A0 l0.length l0) (hc0 : l0.length ≤ c0) (hr1 : Kd.C (Kd.int .u32) w A1 l1.length l1) (hc1 : l1.length ≤ c1) (h : halidehelp_Words.f k l0 l1 = some r) :
    Calls Try.prog 26 #[.slice A0 l0.length c0, .slice A1 l1.length c1] w fun e w' => e = .returned (.bool r) ∧ Drawn0 w w' := by
 have HR0 := Aside0.mk hr0
 have HC0 := Aside0.mk hc0
 clear hr0 hc0
 have HR1 := Aside0.mk hr1
 have HC1 := Aside0.mk hc1
 clear hr1 hc1
 have H : (if (l0.length : Int) = (l1.length : Int) then (halidehelp_Words.l0 k l0 l1 0) else (some false)) = some r := h
 clear h
 by_cases c3 : (l0.length : Int) = (l1.length : Int)
 ·rw [if_pos c3] at H
  have c3b0 : ((l0.length : Int) == (l1.length : Int)) = true := beq_iff_eq.mpr c3
  have c3b1 : ((l0.length : Int) != (l1.length : Int)) = false := bne_eq_false_iff_eq.mpr c3
  have c3b2 : (l0.length == l1.length) = true := by first | simpa using c3 | (simp at c3 ⊢; omega)
  clear c3
  have H' := Aside0.mk H
  clear H
  go_enter Try.func26, Try.ntmps26
  go_wp2
  repeat (go_quiet (fail); try go_wp2)
  go_loopg [5] k (fun kq v5 w' => ∃ (x5_1 : Int), v5 = .int .i64 x5_1 ∧ Aside0 (halidehelp_Words.l0 kq l0 l1 x5_1 = some r) ∧ Aside0 (kq ≤ k) ∧ Drawn0 w w')
  case atStart => exact ⟨(0), (by first | rfl | (simp; done) | (simp [*]; done)), H', ⟨Nat.le_refl _⟩, by repeat (first | exact Drawn0.refl _ | apply Drawn0.step)⟩
  case round =>
   clear H'
   try clear c1
   try clear c2
   try clear p2
   try clear c3
   try clear c3b0
   try clear c3b1
   try clear c3b2
   obtain ⟨x5_1, rfl, HA, HK1, ⟨m1, rfl⟩⟩ := hrel
   cases gk with
   | zero => exact absurd HA.out (by simp [halidehelp_Words.l0])
   | succ k1 =>
    have H := HA.out
    clear HA
    simp only [halidehelp_Words.l0] at H
    by_cases c4 : x5_1 < (l0.length : Int)
    ·rw [if_pos c4] at H
     have c4b0 : decide (x5_1 < (l0.length : Int)) = true := decide_eq_true c4
     clear c4
     by_cases c5 : 0 ≤ x5_1
     ·rw [if_pos c5] at H
      have c5b0 : decide (0 ≤ x5_1) = true := decide_eq_true c5
      clear c5
      by_cases c6 : x5_1 < (l1.length : Int)
      ·rw [if_pos c6] at H
       have c6b0 : decide (x5_1 < (l1.length : Int)) = true := decide_eq_true c6
       clear c6
       by_cases c7 : (rd l0 x5_1) = (rd l1 x5_1)
       ·rw [if_pos c7] at H
        have c7b0 : ((rd l0 x5_1) == (rd l1 x5_1)) = true := beq_iff_eq.mpr c7
        have c7b1 : ((rd l0 x5_1) != (rd l1 x5_1)) = false := bne_eq_false_iff_eq.mpr c7
        clear c7
        have H' := Aside0.mk H
        clear H
        have p136 : 0 ≤ (x5_1 : Int) := of_decide_eq_true (by first | (with_reducible assumption) | assumption)
        have q136 : x5_1 < (l0.length : Int) := of_decide_eq_true (by first | (with_reducible assumption) | assumption)
        obtain ⟨ad136, e136, hx136_0⟩ := Kd.at_int HR0.out x5_1 p136 q136
        cases e136
        replace p136 := eq_true p136
        replace q136 := eq_true q136
        have p137 : 0 ≤ (x5_1 : Int) := of_decide_eq_true (by first | (with_reducible assumption) | assumption)
        have q137 : x5_1 < (l1.length : Int) := of_decide_eq_true (by first | (with_reducible assumption) | assumption)
        obtain ⟨ad137, e137, hx137_0⟩ := Kd.at_int HR1.out x5_1 p137 q137
        cases e137
        replace p137 := eq_true p137
        replace q137 := eq_true q137
        go_wp2
        repeat (go_quiet (fail); try go_wp2)
        go_roundg k1
        case measure => have := HK1.out; omega
        case rel => exact ⟨(wrap64 (x5_1 + 1)), (by first | rfl | (simp; done) | (simp [*]; done)), H', ⟨by have := HK1.out; omega⟩, by repeat (first | exact Drawn0.refl _ | apply Drawn0.step)⟩
       ·rw [if_neg c7] at H
        have c7b0 : ((rd l0 x5_1) == (rd l1 x5_1)) = false := beq_eq_false_iff_ne.mpr c7
        have c7b1 : ((rd l0 x5_1) != (rd l1 x5_1)) = true := bne_iff_ne.mpr c7
        obtain rfl := Option.some.inj H
        have p136 : 0 ≤ (x5_1 : Int) := of_decide_eq_true (by first | (with_reducible assumption) | assumption)
        have q136 : x5_1 < (l0.length : Int) := of_decide_eq_true (by first | (with_reducible assumption) | assumption)
        obtain ⟨ad136, e136, hx136_0⟩ := Kd.at_int HR0.out x5_1 p136 q136
        cases e136
        replace p136 := eq_true p136
        replace q136 := eq_true q136
        have p137 : 0 ≤ (x5_1 : Int) := of_decide_eq_true (by first | (with_reducible assumption) | assumption)
        have q137 : x5_1 < (l1.length : Int) := of_decide_eq_true (by first | (with_reducible assumption) | assumption)
        obtain ⟨ad137, e137, hx137_0⟩ := Kd.at_int HR1.out x5_1 p137 q137
        cases e137
        replace p137 := eq_true p137
        replace q137 := eq_true q137
        go_wp2
        repeat (go_quiet (fail); try go_wp2)
        go_ret
        exact ⟨by first | rfl | (simp; done) | (simp [*]; done), by repeat (first | exact Drawn0.refl _ | apply Drawn0.step)⟩
      ·rw [if_neg c6] at H
       exact absurd H (by simp)
     ·rw [if_neg c5] at H
      exact absurd H (by simp)
    ·rw [if_neg c4] at H
     have c4b0 : decide (x5_1 < (l0.length : Int)) = false := decide_eq_false c4
     clear c4
     obtain rfl := Option.some.inj H
     go_wp2
     repeat (go_quiet (fail); try go_wp2)
     go_ret
     exact ⟨by first | rfl | (simp; done) | (simp [*]; done), by repeat (first | exact Drawn0.refl _ | apply Drawn0.step)⟩
 ·rw [if_neg c3] at H
  have c3b0 : ((l0.length : Int) == (l1.length : Int)) = false := beq_eq_false_iff_ne.mpr c3
  have c3b1 : ((l0.length : Int) != (l1.length : Int)) = true := bne_iff_ne.mpr c3
  have c3b2 : (l0.length == l1.length) = false := by first | simpa using c3 | (simp at c3 ⊢; omega)
  obtain rfl := Option.some.inj H
  go_enter Try.func26, Try.ntmps26
  go_wp2
  repeat (go_quiet (fail); try go_wp2)
  go_ret
  exact ⟨by first | rfl | (simp; done) | (simp [*]; done), by repeat (first | exact Drawn0.refl _ | apply Drawn0.step)⟩

def halidehelp_Plane.f (k : Nat) (a0_0 : Int) (a0_1 : Int) (l0_2 : List Int) (a1_0 : Int) (a1_1 : Int) (l1_2 : List Int) : Option (Bool) := if a0_0 = a1_0 then (if a0_1 = a1_1 then ((halidehelp_Words.f k l0_2 l1_2).bind fun t140 => (some t140)) else (some false)) else (some false)
set_option maxHeartbeats 8000000 in
set_option maxRecDepth 100000 in
theorem halidehelp_Plane.calls (k : Nat) (a0_0 : Int) (a0_1 : Int) (A0_2 : Option Addr) (c0_2 : Nat) (l0_2 : List Int) (a1_0 : Int) (a1_1 : Int) (A1_2 : Option Addr) (c1_2 : Nat) (l1_2 : List Int) (r : Bool) (w : World) (hr0_2 : Kd.C (Kd.int .u32) w A0_2 l0_2.length l0_2) (hc0_2 : l0_2.length ≤ c0_2) (hr1_2 : Kd.C (Kd.int .u32) w A1_2 l1_2.length l1_2) (hc1_2 : l1_2.length ≤ c1_2) (h : halidehelp_Plane.f k a0_0 a0_1 l0_2 a1_0 a1_1 l1_2 = some r) :
    Calls Try.prog 27 #[.agg #[.int .i64 a0_0, .int .i64 a0_1, .slice A0_2 l0_2.length c0_2], .agg #[.int .i64 a1_0, .int .i64 a1_1, .slice A1_2 l1_2.length c1_2]] w fun e w' => e = .returned (.bool r) ∧ Below w.heap.size w w' := by
 have hu31 := Try.underlying31
 have HR0_2 := Aside0.mk hr0_2
 have HC0_2 := Aside0.mk hc0_2
 clear hr0_2 hc0_2
 have HR1_2 := Aside0.mk hr1_2
 have HC1_2 := Aside0.mk hc1_2
 clear hr1_2 hc1_2
 have HB := Aside0.mk (Below.refl w.heap.size w)
 have H : (if a0_0 = a1_0 then (if a0_1 = a1_1 then ((halidehelp_Words.f k l0_2 l1_2).bind fun t140 => (some t140)) else (some false)) else (some false)) = some r := h
 clear h
 by_cases c3 : a0_0 = a1_0
 ·rw [if_pos c3] at H
  have c3b0 : (a0_0 == a1_0) = true := beq_iff_eq.mpr c3
  have c3b1 : (a0_0 != a1_0) = false := bne_eq_false_iff_eq.mpr c3
  clear c3
  by_cases c4 : a0_1 = a1_1
  ·rw [if_pos c4] at H
   have c4b0 : (a0_1 == a1_1) = true := beq_iff_eq.mpr c4
   have c4b1 : (a0_1 != a1_1) = false := bne_eq_false_iff_eq.mpr c4
   clear c4
   replace H := Option.bind_eq_some_iff.mp H
   obtain ⟨t140, A50, H⟩ := H
   replace H : (some t140) = some r := H
   have A5 := Aside0.mk A50
   clear A50
   obtain rfl := Option.some.inj H
   go_enter Try.func27, Try.ntmps27
   go_wp2_with (first | ((with_reducible refine gate_dst (N := 2) rfl ?_); refine box_event ?hg (N := 2) ?hd (cs := #[.int .i64 a0_0, .int .i64 a0_1, .slice A0_2 l0_2.length c0_2]) (t := 31) ?hr ?_; (case hd => rfl); (case hg => rfl); (case hr => first | (go_simp; done) | (go_simp; rfl)); intro gb138 hg w6 hbox hb; have n0_ := Aside0.mk (below_step (by repeat (first | (with_reducible first | exact HB.out | apply below_alloc | apply pw_below_drewN | apply below_drew1) | exact HB.out)) hb); have n1_ := Aside0.mk (hbox); have n2_ := Aside0.mk ((by rw [hg]; exact (below_size (by repeat (first | (with_reducible first | exact HB.out | apply below_alloc | apply pw_below_drewN | apply below_drew1) | exact HB.out))) : w.heap.size ≤ gb138)); have n3_ := Aside0.mk ((by rw [hg]; exact (below_size (by repeat (first | (with_reducible first | exact HB.out | apply below_alloc | apply pw_below_drewN | apply below_drew1) | exact HB.out))) : w.heap.size ≤ gb138)); clear HB; have HB := n0_; have BK138 := n1_; have GW138 := n2_; have GE138 := n3_; clear n0_ n1_ n2_ n3_; clear hb hbox hg) | ((with_reducible refine gate_dst (N := 3) rfl ?_); refine box_event ?hg (N := 3) ?hd (cs := #[.int .i64 a1_0, .int .i64 a1_1, .slice A1_2 l1_2.length c1_2]) (t := 31) ?hr ?_; (case hd => rfl); (case hg => rfl); (case hr => first | (go_simp; done) | (go_simp; rfl)); intro gb139 hg w7 hbox hb; have n0_ := Aside0.mk (blk_below (g := gb138) (o := .cells #[.int .i64 a0_0, .int .i64 a0_1, .slice A0_2 l0_2.length c0_2] 31 (0, 0)) (by (with_reducible repeat (first | refine blk_drewN ?_ _ | refine blk_drew ?_ | refine blk_alloc ?_ _)); exact BK138.out) hb); have n1_ := Aside0.mk (below_step (by repeat (first | (with_reducible first | exact HB.out | apply below_alloc | apply pw_below_drewN | apply below_drew1 | refine below_set ?_ GE138.out) | exact HB.out)) hb); have n2_ := Aside0.mk (hbox); have n3_ := Aside0.mk ((by rw [hg]; exact (below_size (by repeat (first | (with_reducible first | exact HB.out | apply below_alloc | apply pw_below_drewN | apply below_drew1 | refine below_set ?_ GE138.out) | exact HB.out))) : w.heap.size ≤ gb139)); have n4_ := Aside0.mk ((by rw [hg]; exact (below_size (by repeat (first | (with_reducible first | exact HB.out | apply below_alloc | apply pw_below_drewN | apply below_drew1 | refine below_set ?_ GE138.out) | exact HB.out))) : w.heap.size ≤ gb139)); have n5_ := Aside0.mk ((by rw [hg]; exact Nat.ne_of_lt (blk_lt (g := gb138) (o := .cells #[.int .i64 a0_0, .int .i64 a0_1, .slice A0_2 l0_2.length c0_2] 31 (0, 0)) (by (with_reducible repeat (first | refine blk_drewN ?_ _ | refine blk_drew ?_ | refine blk_alloc ?_ _)); exact BK138.out)) : gb138 ≠ gb139)); have n6_ := Aside0.mk ((by rw [hg]; exact Nat.ne_of_gt (blk_lt (g := gb138) (o := .cells #[.int .i64 a0_0, .int .i64 a0_1, .slice A0_2 l0_2.length c0_2] 31 (0, 0)) (by (with_reducible repeat (first | refine blk_drewN ?_ _ | refine blk_drew ?_ | refine blk_alloc ?_ _)); exact BK138.out)) : gb139 ≠ gb138)); clear BK138; clear HB; have BK138 := n0_; have HB := n1_; have BK139 := n2_; have GW139 := n3_; have GE139 := n4_; have NB138_139 := n5_; have NB139_138 := n6_; clear n0_ n1_ n2_ n3_ n4_ n5_ n6_; clear hb hbox hg; have hnb8 := NB138_139.out; have hnc8 := NB139_138.out; have hcz9_0 : w7.cell? ⟨gb138, 0, none⟩ = some (.int .i64 a0_0) := (blk_cell BK138.out 0).trans rfl; have hcz9_1 : w7.cell? ⟨gb138, 1, none⟩ = some (.int .i64 a0_1) := (blk_cell BK138.out 1).trans rfl; have hcz9_2 : w7.cell? ⟨gb138, 2, none⟩ = some (.slice A0_2 l0_2.length c0_2) := (blk_cell BK138.out 2).trans rfl; have hfz9_0 := blk_frozen BK138.out 0; have hfz9_1 := blk_frozen BK138.out 1; have hfz9_2 := blk_frozen BK138.out 2; have hcz10_0 : w7.cell? ⟨gb139, 0, none⟩ = some (.int .i64 a1_0) := (blk_cell BK139.out 0).trans rfl; have hcz10_1 : w7.cell? ⟨gb139, 1, none⟩ = some (.int .i64 a1_1) := (blk_cell BK139.out 1).trans rfl; have hcz10_2 : w7.cell? ⟨gb139, 2, none⟩ = some (.slice A1_2 l1_2.length c1_2) := (blk_cell BK139.out 2).trans rfl; have hfz10_0 := blk_frozen BK139.out 0; have hfz10_1 := blk_frozen BK139.out 1; have hfz10_2 := blk_frozen BK139.out 2) | (go_at_call 26; (with_reducible refine (halidehelp_Words.calls k _ _ l0_2 _ _ l1_2 t140 _ ?side1 ?side2 ?side3 ?side4 A5.out).mono ?_); (case side1 => repeat (first | exact (Kd.C_below HR0_2.out HB.out) | (with_reducible refine Kd.C_alloc ?_ _) | (with_reducible refine Kd.C_drewN ?_ _) | (with_reducible refine Kd.C_drew ?_))); (case side2 => exact HC0_2.out); (case side3 => repeat (first | exact (Kd.C_below HR1_2.out HB.out) | (with_reducible refine Kd.C_alloc ?_ _) | (with_reducible refine Kd.C_drewN ?_ _) | (with_reducible refine Kd.C_drew ?_))); (case side4 => exact HC1_2.out); rintro e w' ⟨rfl, ⟨nd, rfl⟩⟩))
   go_ret
   exact ⟨by first | rfl | (simp [errW_none, errW_some] <;> rfl) | (simp [*, errW_none, errW_some] <;> rfl), by repeat (first | (with_reducible first | exact HB.out | apply below_alloc | apply pw_below_drewN | apply below_drew1 | refine below_set ?_ GE138.out | refine below_set ?_ GE139.out) | exact HB.out)⟩
  ·rw [if_neg c4] at H
   have c4b0 : (a0_1 == a1_1) = false := beq_eq_false_iff_ne.mpr c4
   have c4b1 : (a0_1 != a1_1) = true := bne_iff_ne.mpr c4
   obtain rfl := Option.some.inj H
   go_enter Try.func27, Try.ntmps27
   go_wp2_with (first | ((with_reducible refine gate_dst (N := 2) rfl ?_); refine box_event ?hg (N := 2) ?hd (cs := #[.int .i64 a0_0, .int .i64 a0_1, .slice A0_2 l0_2.length c0_2]) (t := 31) ?hr ?_; (case hd => rfl); (case hg => rfl); (case hr => first | (go_simp; done) | (go_simp; rfl)); intro gb138 hg w11 hbox hb; have n0_ := Aside0.mk (below_step (by repeat (first | (with_reducible first | exact HB.out | apply below_alloc | apply pw_below_drewN | apply below_drew1) | exact HB.out)) hb); have n1_ := Aside0.mk (hbox); have n2_ := Aside0.mk ((by rw [hg]; exact (below_size (by repeat (first | (with_reducible first | exact HB.out | apply below_alloc | apply pw_below_drewN | apply below_drew1) | exact HB.out))) : w.heap.size ≤ gb138)); have n3_ := Aside0.mk ((by rw [hg]; exact (below_size (by repeat (first | (with_reducible first | exact HB.out | apply below_alloc | apply pw_below_drewN | apply below_drew1) | exact HB.out))) : w.heap.size ≤ gb138)); clear HB; have HB := n0_; have BK138 := n1_; have GW138 := n2_; have GE138 := n3_; clear n0_ n1_ n2_ n3_; clear hb hbox hg) | ((with_reducible refine gate_dst (N := 3) rfl ?_); refine box_event ?hg (N := 3) ?hd (cs := #[.int .i64 a1_0, .int .i64 a1_1, .slice A1_2 l1_2.length c1_2]) (t := 31) ?hr ?_; (case hd => rfl); (case hg => rfl); (case hr => first | (go_simp; done) | (go_simp; rfl)); intro gb139 hg w12 hbox hb; have n0_ := Aside0.mk (blk_below (g := gb138) (o := .cells #[.int .i64 a0_0, .int .i64 a0_1, .slice A0_2 l0_2.length c0_2] 31 (0, 0)) (by (with_reducible repeat (first | refine blk_drewN ?_ _ | refine blk_drew ?_ | refine blk_alloc ?_ _)); exact BK138.out) hb); have n1_ := Aside0.mk (below_step (by repeat (first | (with_reducible first | exact HB.out | apply below_alloc | apply pw_below_drewN | apply below_drew1 | refine below_set ?_ GE138.out) | exact HB.out)) hb); have n2_ := Aside0.mk (hbox); have n3_ := Aside0.mk ((by rw [hg]; exact (below_size (by repeat (first | (with_reducible first | exact HB.out | apply below_alloc | apply pw_below_drewN | apply below_drew1 | refine below_set ?_ GE138.out) | exact HB.out))) : w.heap.size ≤ gb139)); have n4_ := Aside0.mk ((by rw [hg]; exact (below_size (by repeat (first | (with_reducible first | exact HB.out | apply below_alloc | apply pw_below_drewN | apply below_drew1 | refine below_set ?_ GE138.out) | exact HB.out))) : w.heap.size ≤ gb139)); have n5_ := Aside0.mk ((by rw [hg]; exact Nat.ne_of_lt (blk_lt (g := gb138) (o := .cells #[.int .i64 a0_0, .int .i64 a0_1, .slice A0_2 l0_2.length c0_2] 31 (0, 0)) (by (with_reducible repeat (first | refine blk_drewN ?_ _ | refine blk_drew ?_ | refine blk_alloc ?_ _)); exact BK138.out)) : gb138 ≠ gb139)); have n6_ := Aside0.mk ((by rw [hg]; exact Nat.ne_of_gt (blk_lt (g := gb138) (o := .cells #[.int .i64 a0_0, .int .i64 a0_1, .slice A0_2 l0_2.length c0_2] 31 (0, 0)) (by (with_reducible repeat (first | refine blk_drewN ?_ _ | refine blk_drew ?_ | refine blk_alloc ?_ _)); exact BK138.out)) : gb139 ≠ gb138)); clear BK138; clear HB; have BK138 := n0_; have HB := n1_; have BK139 := n2_; have GW139 := n3_; have GE139 := n4_; have NB138_139 := n5_; have NB139_138 := n6_; clear n0_ n1_ n2_ n3_ n4_ n5_ n6_; clear hb hbox hg; have hnb13 := NB138_139.out; have hnc13 := NB139_138.out; have hcz14_0 : w12.cell? ⟨gb138, 0, none⟩ = some (.int .i64 a0_0) := (blk_cell BK138.out 0).trans rfl; have hcz14_1 : w12.cell? ⟨gb138, 1, none⟩ = some (.int .i64 a0_1) := (blk_cell BK138.out 1).trans rfl; have hcz14_2 : w12.cell? ⟨gb138, 2, none⟩ = some (.slice A0_2 l0_2.length c0_2) := (blk_cell BK138.out 2).trans rfl; have hfz14_0 := blk_frozen BK138.out 0; have hfz14_1 := blk_frozen BK138.out 1; have hfz14_2 := blk_frozen BK138.out 2; have hcz15_0 : w12.cell? ⟨gb139, 0, none⟩ = some (.int .i64 a1_0) := (blk_cell BK139.out 0).trans rfl; have hcz15_1 : w12.cell? ⟨gb139, 1, none⟩ = some (.int .i64 a1_1) := (blk_cell BK139.out 1).trans rfl; have hcz15_2 : w12.cell? ⟨gb139, 2, none⟩ = some (.slice A1_2 l1_2.length c1_2) := (blk_cell BK139.out 2).trans rfl; have hfz15_0 := blk_frozen BK139.out 0; have hfz15_1 := blk_frozen BK139.out 1; have hfz15_2 := blk_frozen BK139.out 2))
   go_ret
   exact ⟨by first | rfl | (simp [errW_none, errW_some] <;> rfl) | (simp [*, errW_none, errW_some] <;> rfl), by repeat (first | (with_reducible first | exact HB.out | apply below_alloc | apply pw_below_drewN | apply below_drew1 | refine below_set ?_ GE138.out | refine below_set ?_ GE139.out) | exact HB.out)⟩
 ·rw [if_neg c3] at H
  have c3b0 : (a0_0 == a1_0) = false := beq_eq_false_iff_ne.mpr c3
  have c3b1 : (a0_0 != a1_0) = true := bne_iff_ne.mpr c3
  obtain rfl := Option.some.inj H
  go_enter Try.func27, Try.ntmps27
  go_wp2_with (first | ((with_reducible refine gate_dst (N := 2) rfl ?_); refine box_event ?hg (N := 2) ?hd (cs := #[.int .i64 a0_0, .int .i64 a0_1, .slice A0_2 l0_2.length c0_2]) (t := 31) ?hr ?_; (case hd => rfl); (case hg => rfl); (case hr => first | (go_simp; done) | (go_simp; rfl)); intro gb138 hg w16 hbox hb; have n0_ := Aside0.mk (below_step (by repeat (first | (with_reducible first | exact HB.out | apply below_alloc | apply pw_below_drewN | apply below_drew1) | exact HB.out)) hb); have n1_ := Aside0.mk (hbox); have n2_ := Aside0.mk ((by rw [hg]; exact (below_size (by repeat (first | (with_reducible first | exact HB.out | apply below_alloc | apply pw_below_drewN | apply below_drew1) | exact HB.out))) : w.heap.size ≤ gb138)); have n3_ := Aside0.mk ((by rw [hg]; exact (below_size (by repeat (first | (with_reducible first | exact HB.out | apply below_alloc | apply pw_below_drewN | apply below_drew1) | exact HB.out))) : w.heap.size ≤ gb138)); clear HB; have HB := n0_; have BK138 := n1_; have GW138 := n2_; have GE138 := n3_; clear n0_ n1_ n2_ n3_; clear hb hbox hg) | ((with_reducible refine gate_dst (N := 3) rfl ?_); refine box_event ?hg (N := 3) ?hd (cs := #[.int .i64 a1_0, .int .i64 a1_1, .slice A1_2 l1_2.length c1_2]) (t := 31) ?hr ?_; (case hd => rfl); (case hg => rfl); (case hr => first | (go_simp; done) | (go_simp; rfl)); intro gb139 hg w17 hbox hb; have n0_ := Aside0.mk (blk_below (g := gb138) (o := .cells #[.int .i64 a0_0, .int .i64 a0_1, .slice A0_2 l0_2.length c0_2] 31 (0, 0)) (by (with_reducible repeat (first | refine blk_drewN ?_ _ | refine blk_drew ?_ | refine blk_alloc ?_ _)); exact BK138.out) hb); have n1_ := Aside0.mk (below_step (by repeat (first | (with_reducible first | exact HB.out | apply below_alloc | apply pw_below_drewN | apply below_drew1 | refine below_set ?_ GE138.out) | exact HB.out)) hb); have n2_ := Aside0.mk (hbox); have n3_ := Aside0.mk ((by rw [hg]; exact (below_size (by repeat (first | (with_reducible first | exact HB.out | apply below_alloc | apply pw_below_drewN | apply below_drew1 | refine below_set ?_ GE138.out) | exact HB.out))) : w.heap.size ≤ gb139)); have n4_ := Aside0.mk ((by rw [hg]; exact (below_size (by repeat (first | (with_reducible first | exact HB.out | apply below_alloc | apply pw_below_drewN | apply below_drew1 | refine below_set ?_ GE138.out) | exact HB.out))) : w.heap.size ≤ gb139)); have n5_ := Aside0.mk ((by rw [hg]; exact Nat.ne_of_lt (blk_lt (g := gb138) (o := .cells #[.int .i64 a0_0, .int .i64 a0_1, .slice A0_2 l0_2.length c0_2] 31 (0, 0)) (by (with_reducible repeat (first | refine blk_drewN ?_ _ | refine blk_drew ?_ | refine blk_alloc ?_ _)); exact BK138.out)) : gb138 ≠ gb139)); have n6_ := Aside0.mk ((by rw [hg]; exact Nat.ne_of_gt (blk_lt (g := gb138) (o := .cells #[.int .i64 a0_0, .int .i64 a0_1, .slice A0_2 l0_2.length c0_2] 31 (0, 0)) (by (with_reducible repeat (first | refine blk_drewN ?_ _ | refine blk_drew ?_ | refine blk_alloc ?_ _)); exact BK138.out)) : gb139 ≠ gb138)); clear BK138; clear HB; have BK138 := n0_; have HB := n1_; have BK139 := n2_; have GW139 := n3_; have GE139 := n4_; have NB138_139 := n5_; have NB139_138 := n6_; clear n0_ n1_ n2_ n3_ n4_ n5_ n6_; clear hb hbox hg; have hnb18 := NB138_139.out; have hnc18 := NB139_138.out; have hcz19_0 : w17.cell? ⟨gb138, 0, none⟩ = some (.int .i64 a0_0) := (blk_cell BK138.out 0).trans rfl; have hcz19_1 : w17.cell? ⟨gb138, 1, none⟩ = some (.int .i64 a0_1) := (blk_cell BK138.out 1).trans rfl; have hcz19_2 : w17.cell? ⟨gb138, 2, none⟩ = some (.slice A0_2 l0_2.length c0_2) := (blk_cell BK138.out 2).trans rfl; have hfz19_0 := blk_frozen BK138.out 0; have hfz19_1 := blk_frozen BK138.out 1; have hfz19_2 := blk_frozen BK138.out 2; have hcz20_0 : w17.cell? ⟨gb139, 0, none⟩ = some (.int .i64 a1_0) := (blk_cell BK139.out 0).trans rfl; have hcz20_1 : w17.cell? ⟨gb139, 1, none⟩ = some (.int .i64 a1_1) := (blk_cell BK139.out 1).trans rfl; have hcz20_2 : w17.cell? ⟨gb139, 2, none⟩ = some (.slice A1_2 l1_2.length c1_2) := (blk_cell BK139.out 2).trans rfl; have hfz20_0 := blk_frozen BK139.out 0; have hfz20_1 := blk_frozen BK139.out 1; have hfz20_2 := blk_frozen BK139.out 2))
  go_ret
  exact ⟨by first | rfl | (simp [errW_none, errW_some] <;> rfl) | (simp [*, errW_none, errW_some] <;> rfl), by repeat (first | (with_reducible first | exact HB.out | apply below_alloc | apply pw_below_drewN | apply below_drew1 | refine below_set ?_ GE138.out | refine below_set ?_ GE139.out) | exact HB.out)⟩

def picture_spaceOf.f (a0 : Int) (a1 : Int) : Option (Int) := if a0 < 0 then (some 81) else (if a0 > 4 then (some 81) else (if a0 = 0 then (some 0) else (if a1 < 3 then (some 81) else (some 0))))
set_option maxHeartbeats 8000000 in
set_option maxRecDepth 100000 in
theorem picture_spaceOf.calls (a0 : Int) (a1 : Int) (r : Int) (w : World) (h : picture_spaceOf.f a0 a1 = some r) :
    Calls Try.prog 84 #[.int .i64 a0, .int .i64 a1] w fun e w' => e = .returned (.int .i64 r) ∧ Drawn0 w w' := by
 have H : (if a0 < 0 then (some 81) else (if a0 > 4 then (some 81) else (if a0 = 0 then (some 0) else (if a1 < 3 then (some 81) else (some 0))))) = some r := h
 clear h
 by_cases c3 : a0 < 0
 ·rw [if_pos c3] at H
  have c3b0 : decide (a0 < 0) = true := decide_eq_true c3
  clear c3
  obtain rfl := Option.some.inj H
  go_enter Try.func84, Try.ntmps84
  go_wp2
  go_ret
  exact ⟨by first | rfl | (simp; done) | (simp [*]; done), by repeat (first | exact Drawn0.refl _ | apply Drawn0.step)⟩
 ·rw [if_neg c3] at H
  have c3b0 : decide (a0 < 0) = false := decide_eq_false c3
  clear c3
  by_cases c4 : a0 > 4
  ·rw [if_pos c4] at H
   have c4b0 : decide (4 < a0) = true := decide_eq_true c4
   clear c4
   obtain rfl := Option.some.inj H
   go_enter Try.func84, Try.ntmps84
   go_wp2
   go_ret
   exact ⟨by first | rfl | (simp; done) | (simp [*]; done), by repeat (first | exact Drawn0.refl _ | apply Drawn0.step)⟩
  ·rw [if_neg c4] at H
   have c4b0 : decide (4 < a0) = false := decide_eq_false c4
   clear c4
   by_cases c5 : a0 = 0
   ·rw [if_pos c5] at H
    have c5b0 : (a0 == 0) = true := beq_iff_eq.mpr c5
    have c5b1 : (a0 != 0) = false := bne_eq_false_iff_eq.mpr c5
    clear c5
    obtain rfl := Option.some.inj H
    go_enter Try.func84, Try.ntmps84
    go_wp2
    go_ret
    exact ⟨by first | rfl | (simp; done) | (simp [*]; done), by repeat (first | exact Drawn0.refl _ | apply Drawn0.step)⟩
   ·rw [if_neg c5] at H
    have c5b0 : (a0 == 0) = false := beq_eq_false_iff_ne.mpr c5
    have c5b1 : (a0 != 0) = true := bne_iff_ne.mpr c5
    by_cases c6 : a1 < 3
    ·rw [if_pos c6] at H
     have c6b0 : decide (a1 < 3) = true := decide_eq_true c6
     clear c6
     obtain rfl := Option.some.inj H
     go_enter Try.func84, Try.ntmps84
     go_wp2
     go_ret
     exact ⟨by first | rfl | (simp; done) | (simp [*]; done), by repeat (first | exact Drawn0.refl _ | apply Drawn0.step)⟩
    ·rw [if_neg c6] at H
     have c6b0 : decide (a1 < 3) = false := decide_eq_false c6
     clear c6
     obtain rfl := Option.some.inj H
     go_enter Try.func84, Try.ntmps84
     go_wp2
     go_ret
     exact ⟨by first | rfl | (simp; done) | (simp [*]; done), by repeat (first | exact Drawn0.refl _ | apply Drawn0.step)⟩

end Go.Proofs.Ytbbebhdcfopmmaa.PCodecNames
end
section
namespace Go.Proofs.Ytbbebhdcfopmmaa.PCodecNames
open Go.RowKit Go.Proofs.YtbbebhdcfopmmaaW.PrintWords Go.Proofs.YtbbebhdcfopmmaaW.PrintLast Go.Proofs.YtbbebhdcfopmmaaW.PrintMore
attribute [local go_sem] max2_int min2_int max_two min_two max_three min_three max_four min_four   -- for this text's walks alone
set_option linter.unusedVariables false
set_option linter.unusedSimpArgs false

def codec_numbered.l0 : Nat → List Int → Int → Int → Option (List Int)
 | 0, _, _, _ => none
 | k + 1, x0, x1, x2 => if x1 ≥ 0 then (if 0 ≤ (wrap64 (8 * x1)) then (if x0.length < 140737488355328 then (codec_numbered.l0 k (x0 ++ [(shr .i64 x2 (wrap64 (8 * x1))) % 256]) (wrap64 (x1 - 1)) x2) else (none)) else (none)) else (some x0)
def codec_numbered.f (k : Nat) (l0 : List Int) (a1 : Int) (a2 : Int) : Option (List Int) := codec_numbered.l0 k l0 (wrap64 (a1 - 1)) a2
set_option maxHeartbeats 8000000 in
set_option maxRecDepth 100000 in
theorem codec_numbered.calls (k : Nat) (P0_ : Nat → Prop) (u9000_ : Value) (l0 : List Int) (a1 : Int) (a2 : Int) (r : List Int) (w0 w : World) (hB : Below w0.heap.size w0 w) (ho0 : Kd.R (Kd.int .u8) 5 w w0.heap.size P0_ u9000_ l0) (h : codec_numbered.f k l0 a1 a2 = some r) :
    Calls Try.prog 65 #[u9000_, .int .i64 a1, .int .i64 a2] w fun e w' => ∃ v0_ : Value, e = .returned (v0_) ∧ Kd.R (Kd.int .u8) 5 w' w0.heap.size (fun k_ => (P0_ k_ ∨ w.heap.size ≤ k_)) v0_ r ∧ Below w0.heap.size w0 w' ∧ Kept w w' (fun k_ => P0_ k_) := by
 have HO0 := Aside0.mk (show Kd.R (Kd.int .u8) 5 w w0.heap.size (fun k_ => (P0_ k_ ∨ w.heap.size ≤ k_)) u9000_ l0 from Kd.R_mono ho0 (fun k_ hk => (.inl hk)))
 have HK := Aside0.mk (Kept.refl w (fun k_ => P0_ k_))
 have HW0 := Aside0.mk hB.size
 have HB := Aside0.mk hB
 clear hB
 have H : (codec_numbered.l0 k l0 (wrap64 (a1 - 1)) a2) = some r := h
 clear h
 have H' := Aside0.mk H
 clear H
 go_enter Try.func65, Try.ntmps65
 go_wp2
 go_loopg [0, 1] k (fun kq v0 v1 w' => ∃ (x0_1 : List Int) (x1_1 : Int), v1 = .int .i64 x1_1 ∧ Aside0 (codec_numbered.l0 kq x0_1 x1_1 a2 = some r) ∧ Aside0 (kq ≤ k) ∧ Aside0 (Kd.R (Kd.int .u8) 5 w' w0.heap.size (fun k_ => (P0_ k_ ∨ w.heap.size ≤ k_)) v0 x0_1) ∧ Aside0 (Kept w w' (fun k_ => P0_ k_)) ∧ Aside0 (Below w0.heap.size w0 w'))
 case atStart => exact ⟨(l0), (wrap64 (a1 - 1)), (by first | rfl | (simp; done) | (simp [*]; done)), H', ⟨Nat.le_refl _⟩, ⟨by (with_reducible repeat (first | apply Kd.R_alloc | apply Kd.R_drewN | apply Kd.R_drew)); exact HO0.out⟩, ⟨by repeat (first | (with_reducible first | exact HK.out | apply Kept.alloc | apply Kept.drewN | apply Kept.drew) | exact HK.out)⟩, ⟨by repeat (first | (with_reducible first | exact HB.out | apply below_alloc | apply pw_below_drewN | apply below_drew1) | exact HB.out)⟩⟩
 case round =>
  clear H'
  try clear p2
  obtain ⟨x0_1, x1_1, rfl, HA, HK1, HO_0, HK, HB⟩ := hrel
  cases gk with
  | zero => exact absurd HA.out (by simp [codec_numbered.l0])
  | succ k1 =>
   have H := HA.out
   clear HA
   simp only [codec_numbered.l0] at H
   by_cases c4 : x1_1 ≥ 0
   ·rw [if_pos c4] at H
    have c4b0 : decide (0 ≤ x1_1) = true := decide_eq_true c4
    clear c4
    obtain ⟨ji5, hji5⟩ : ∃ j_ : Int, (wrap64 (8 * x1_1)) = j_ := ⟨_, rfl⟩
    replace H : (if 0 ≤ (ji5) then (if x0_1.length < 140737488355328 then (codec_numbered.l0 k1 (x0_1 ++ [(shr .i64 a2 (ji5)) % 256]) (wrap64 (x1_1 - 1)) a2) else (none)) else (none)) = some r := by first | (rw [hji5] at H; exact H) | (simp only [hji5] at H ⊢; exact H)
    have hji5w : (IntKind.i64.wrap (8 * x1_1)) = ji5 := (i64_w _).trans hji5
    by_cases c6 : 0 ≤ (ji5)
    ·rw [if_pos c6] at H
     have c6b0 := eq_true c6
     have c6b1 : decide (0 ≤ (ji5)) = true := decide_eq_true c6
     clear c6
     obtain ⟨ji7, hji7⟩ : ∃ j_ : Int, (shr .i64 a2 (ji5)) = j_ := ⟨_, rfl⟩
     replace H : (if x0_1.length < 140737488355328 then (codec_numbered.l0 k1 (x0_1 ++ [(ji7) % 256]) (wrap64 (x1_1 - 1)) a2) else (none)) = some r := by first | (rw [hji7] at H; exact H) | (simp only [hji7] at H ⊢; exact H)
     have hji7_ : (a2 / 2 ^ min (ji5).toNat 64) = ji7 := hji7
     have hji7z : (ji5) ≤ 64 → (a2 / 2 ^ (ji5).toNat) = ji7 := shr_small hji7
     by_cases c8 : x0_1.length < 140737488355328
     ·rw [if_pos c8] at H
      have LMc8 := Aside0.mk c8
      clear c8
      obtain ⟨y150, hy150⟩ : ∃ y_ : List Int, y_ = (x0_1 ++ [(ji7) % 256]) := ⟨_, rfl⟩
      replace H : (codec_numbered.l0 k1 y150 (wrap64 (x1_1 - 1)) a2) = some r := by first | (rw [hy150]; with_reducible exact H) | (have H2_ := (Option.bind_some _ _).symm.trans H; rw [hy150]; with_reducible exact H2_) | (have H2_ := (Option.bind_some _ _).symm.trans H; with_reducible exact H2_) | with_reducible exact H | (rw [hy150]; exact H) | exact H
      have Ny150 := Aside0.mk hy150
      clear hy150
      have H' := Aside0.mk H
      clear H
      go_wp2_with (first | ((with_reducible refine gate_builtin (b := .append) (xs := #[.tmp 13, .tmp 19]) rfl ?_); at_builtin; refine Kd.R_append (Kd.int .u8) (w0 := w0) w0.heap.size rfl (.tmp 13) (.tmp 19) 23 5 (.int .u8 0) 1 rfl Try.underlying23 info5 rfl (by decide) (by omega) u0 x0_1 ((ji7) % 256) [.int .u8 ((ji7) % 256)] (fun k_ => (P0_ k_ ∨ w.heap.size ≤ k_)) (fun _ => False) rfl rfl ?aP (fun _ hk => hk.elim) ?aF ?aO ?aB ?aS ?aL ?_; (case aP => exact rfl); (case aB => exact (by repeat (first | (with_reducible first | exact HB.out | apply below_alloc | apply pw_below_drewN | apply below_drew1) | exact HB.out))); (case aF => exact (fun k_ hk => (.inr (Nat.le_trans (by first | exact HK.out.1 | exact (show Kept w _ (fun k_ => P0_ k_) from by repeat (first | (with_reducible first | exact HK.out | apply Kept.alloc | apply Kept.drewN | apply Kept.drew) | exact HK.out)).1) hk)))); (case aO => exact (by (with_reducible repeat (first | apply Kd.R_alloc | apply Kd.R_drewN | apply Kd.R_drew)); exact HO_0.out)); (case aS => exact (below_size (by repeat (first | (with_reducible first | exact HB.out | apply below_alloc | apply pw_below_drewN | apply below_drew1) | exact HB.out)))); (case aL => have := LMc8.out; omega); intro v151 w9 ho hb hg hat; rw [← Ny150.out] at ho; have n0_ := Aside0.mk (hb); have n1_ := Aside0.mk (Kept.of_grown (S := (fun k_ => P0_ k_)) hg (by repeat (first | (with_reducible first | exact HK.out | apply Kept.alloc | apply Kept.drewN | apply Kept.drew) | exact HK.out)) (fun k_ e_ => (HO_0.out.1 k_ e_))); have n2_ := Aside0.mk (ho); clear HB; clear HK; clear HO_0; have HB := n0_; have HK := n1_; have HO152 := n2_; clear n0_ n1_ n2_; clear ho hb hg hat))
      go_roundg k1
      case measure => have := HK1.out; omega
      case rel => exact ⟨(y150), (wrap64 (x1_1 - 1)), (by first | rfl | (simp; done) | (simp [*]; done)), H', ⟨by have := HK1.out; omega⟩, ⟨by (with_reducible repeat (first | apply Kd.R_alloc | apply Kd.R_drewN | apply Kd.R_drew)); exact HO152.out⟩, ⟨by repeat (first | (with_reducible first | exact HK.out | apply Kept.alloc | apply Kept.drewN | apply Kept.drew) | exact HK.out)⟩, ⟨by repeat (first | (with_reducible first | exact HB.out | apply below_alloc | apply pw_below_drewN | apply below_drew1) | exact HB.out)⟩⟩
     ·rw [if_neg c8] at H
      exact absurd H (by simp)
    ·rw [if_neg c6] at H
     exact absurd H (by simp)
   ·rw [if_neg c4] at H
    have c4b0 : decide (0 ≤ x1_1) = false := decide_eq_false c4
    clear c4
    obtain rfl := Option.some.inj H
    go_wp2
    go_ret
    exact ⟨_, by first | rfl | (simp [errW_none, errW_some] <;> rfl) | (simp [*, errW_none, errW_some] <;> rfl), by (with_reducible repeat (first | apply Kd.R_alloc | apply Kd.R_drewN | apply Kd.R_drew)); exact HO_0.out, by repeat (first | (with_reducible first | exact HB.out | apply below_alloc | apply pw_below_drewN | apply below_drew1) | exact HB.out), by repeat (first | (with_reducible first | exact HK.out | apply Kept.alloc | apply Kept.drewN | apply Kept.drew) | exact HK.out)⟩

def codec_grid_across.f (a0_0 : Int) (a0_1 : Int) (a0_2 : Int) (a0_3 : Int) (a0_4 : Int) : Option (Int) := if a0_4 = 0 then (none) else (some (wrap64 (Int.tdiv (wrap64 ((wrap64 (a0_2 + a0_4)) - 1)) a0_4)))
set_option maxHeartbeats 8000000 in
set_option maxRecDepth 100000 in
theorem codec_grid_across.calls (a0_0 : Int) (a0_1 : Int) (a0_2 : Int) (a0_3 : Int) (a0_4 : Int) (r : Int) (w : World) (h : codec_grid_across.f a0_0 a0_1 a0_2 a0_3 a0_4 = some r) :
    Calls Try.prog 85 #[.agg #[.int .i64 a0_0, .int .i64 a0_1, .int .i64 a0_2, .int .i64 a0_3, .int .i64 a0_4]] w fun e w' => e = .returned (.int .i64 r) ∧ Below w.heap.size w w' := by
 have hu105 := Try.underlying105
 have HB := Aside0.mk (Below.refl w.heap.size w)
 have H : (if a0_4 = 0 then (none) else (some (wrap64 (Int.tdiv (wrap64 ((wrap64 (a0_2 + a0_4)) - 1)) a0_4)))) = some r := h
 clear h
 by_cases c2 : a0_4 = 0
 ·rw [if_pos c2] at H
  exact absurd H (by simp)
 ·rw [if_neg c2] at H
  have c2b0 : (a0_4 == 0) = false := beq_eq_false_iff_ne.mpr c2
  have c2b1 : (a0_4 != 0) = true := bne_iff_ne.mpr c2
  obtain rfl := Option.some.inj H
  go_enter Try.func85, Try.ntmps85
  go_wp2_with (first | ((with_reducible refine gate_dst (N := 1) rfl ?_); refine box_event ?hg (N := 1) ?hd (cs := #[.int .i64 a0_0, .int .i64 a0_1, .int .i64 a0_2, .int .i64 a0_3, .int .i64 a0_4]) (t := 105) ?hr ?_; (case hd => rfl); (case hg => rfl); (case hr => first | (go_simp; done) | (go_simp; rfl)); intro gb153 hg w3 hbox hb; have n0_ := Aside0.mk (below_step (by repeat (first | (with_reducible first | exact HB.out | apply below_alloc | apply pw_below_drewN | apply below_drew1) | exact HB.out)) hb); have n1_ := Aside0.mk (hbox); have n2_ := Aside0.mk ((by rw [hg]; exact (below_size (by repeat (first | (with_reducible first | exact HB.out | apply below_alloc | apply pw_below_drewN | apply below_drew1) | exact HB.out))) : w.heap.size ≤ gb153)); have n3_ := Aside0.mk ((by rw [hg]; exact (below_size (by repeat (first | (with_reducible first | exact HB.out | apply below_alloc | apply pw_below_drewN | apply below_drew1) | exact HB.out))) : w.heap.size ≤ gb153)); clear HB; have HB := n0_; have BK153 := n1_; have GW153 := n2_; have GE153 := n3_; clear n0_ n1_ n2_ n3_; clear hb hbox hg; have hcz4_0 : w3.cell? ⟨gb153, 0, none⟩ = some (.int .i64 a0_0) := (blk_cell BK153.out 0).trans rfl; have hcz4_1 : w3.cell? ⟨gb153, 1, none⟩ = some (.int .i64 a0_1) := (blk_cell BK153.out 1).trans rfl; have hcz4_2 : w3.cell? ⟨gb153, 2, none⟩ = some (.int .i64 a0_2) := (blk_cell BK153.out 2).trans rfl; have hcz4_3 : w3.cell? ⟨gb153, 3, none⟩ = some (.int .i64 a0_3) := (blk_cell BK153.out 3).trans rfl; have hcz4_4 : w3.cell? ⟨gb153, 4, none⟩ = some (.int .i64 a0_4) := (blk_cell BK153.out 4).trans rfl; have hfz4_0 := blk_frozen BK153.out 0; have hfz4_1 := blk_frozen BK153.out 1; have hfz4_2 := blk_frozen BK153.out 2; have hfz4_3 := blk_frozen BK153.out 3; have hfz4_4 := blk_frozen BK153.out 4))
  go_ret
  exact ⟨by first | rfl | (simp [errW_none, errW_some] <;> rfl) | (simp [*, errW_none, errW_some] <;> rfl), by repeat (first | (with_reducible first | exact HB.out | apply below_alloc | apply pw_below_drewN | apply below_drew1 | refine below_set ?_ GE153.out) | exact HB.out)⟩

def codec_grid_tiles.f (a0_0 : Int) (a0_1 : Int) (a0_2 : Int) (a0_3 : Int) (a0_4 : Int) : Option (Int) := (codec_grid_across.f a0_0 a0_1 a0_2 a0_3 a0_4).bind fun t155 => (if a0_4 = 0 then (none) else (some (wrap64 (t155 * (wrap64 (Int.tdiv (wrap64 ((wrap64 (a0_3 + a0_4)) - 1)) a0_4))))))
def codec_grid_tiles.T1 : Bool × List (List Nat × List Nat) := (true, [([], []), ([0], [0]), ([], []), ([2], [2]), ([3], [3]), ([], []), ([5], [5]), ([6], [6]), ([4, 7], [4, 7]), ([8], [8]), ([], []), ([10], [10]), ([11], [11]), ([9, 12], [9, 12]), ([1, 13], [1, 13]), ([14, 1, 0, 1, 2, 3, 4, 5, 6, 7, 8, 9, 10, 11, 12, 13, 14], [14])])
def codec_grid_tiles.B1 : List Nat := [0, 1, 0, 4, 12, 0, 32, 96, 252, 508, 0, 1024, 3072, 8188, 16383, 32767]
theorem codec_grid_tiles.tab1 : rtab .any (opsOf Try.f66 1) = codec_grid_tiles.T1 := by kernel_rfl
theorem codec_grid_tiles.bits1 : waitsOk codec_grid_tiles.T1.2 codec_grid_tiles.B1 = true := by kernel_rfl
set_option maxHeartbeats 8000000 in
set_option maxRecDepth 100000 in
theorem codec_grid_tiles.calls (a0_0 : Int) (a0_1 : Int) (a0_2 : Int) (a0_3 : Int) (a0_4 : Int) (r : Int) (w : World) (h : codec_grid_tiles.f a0_0 a0_1 a0_2 a0_3 a0_4 = some r) :
    Calls Try.prog 66 #[.agg #[.int .i64 a0_0, .int .i64 a0_1, .int .i64 a0_2, .int .i64 a0_3, .int .i64 a0_4]] w fun e w' => e = .returned (.int .i64 r) ∧ Below w.heap.size w w' := by
 have hu105 := Try.underlying105
 have HB := Aside0.mk (Below.refl w.heap.size w)
 have H : ((codec_grid_across.f a0_0 a0_1 a0_2 a0_3 a0_4).bind fun t155 => (if a0_4 = 0 then (none) else (some (wrap64 (t155 * (wrap64 (Int.tdiv (wrap64 ((wrap64 (a0_3 + a0_4)) - 1)) a0_4))))))) = some r := h
 clear h
 replace H := Option.bind_eq_some_iff.mp H
 obtain ⟨t155, A20, H⟩ := H
 replace H : (if a0_4 = 0 then (none) else (some (wrap64 (t155 * (wrap64 (Int.tdiv (wrap64 ((wrap64 (a0_3 + a0_4)) - 1)) a0_4)))))) = some r := H
 have A2 := Aside0.mk A20
 clear A20
 by_cases c3 : a0_4 = 0
 ·rw [if_pos c3] at H
  exact absurd H (by simp)
 ·rw [if_neg c3] at H
  have c3b0 : (a0_4 == 0) = false := beq_eq_false_iff_ne.mpr c3
  have c3b1 : (a0_4 != 0) = true := bne_iff_ne.mpr c3
  obtain rfl := Option.some.inj H
  go_enter Try.func66, Try.ntmps66
  try go_wp2_with (first | ((with_reducible refine gate_dst (N := 1) rfl ?_); refine box_event ?hg (N := 1) ?hd (cs := #[.int .i64 a0_0, .int .i64 a0_1, .int .i64 a0_2, .int .i64 a0_3, .int .i64 a0_4]) (t := 105) ?hr ?_; (case hd => rfl); (case hg => rfl); (case hr => first | (go_simp; done) | (go_simp; rfl)); intro gb154 hg w4 hbox hb; have n0_ := Aside0.mk (below_step (by repeat (first | (with_reducible first | exact HB.out | apply below_alloc | apply pw_below_drewN | apply below_drew1) | exact HB.out)) hb); have n1_ := Aside0.mk (hbox); have n2_ := Aside0.mk ((by rw [hg]; exact (below_size (by repeat (first | (with_reducible first | exact HB.out | apply below_alloc | apply pw_below_drewN | apply below_drew1) | exact HB.out))) : w.heap.size ≤ gb154)); have n3_ := Aside0.mk ((by rw [hg]; exact (below_size (by repeat (first | (with_reducible first | exact HB.out | apply below_alloc | apply pw_below_drewN | apply below_drew1) | exact HB.out))) : w.heap.size ≤ gb154)); clear HB; have HB := n0_; have BK154 := n1_; have GW154 := n2_; have GE154 := n3_; clear n0_ n1_ n2_ n3_; clear hb hbox hg))
  have n0_ := Aside0.mk (blk_drew BK154.out)
  have n1_ := Aside0.mk (below_drew1 HB.out)
  clear BK154
  clear HB
  have BK154 := n0_
  have HB := n1_
  clear n0_ n1_
  refine start_ (n := 16) (S := fun w' => w'.cell? ⟨gb154, 0, none⟩ = some (.int .i64 a0_0) ∧ w'.cell? ⟨gb154, 1, none⟩ = some (.int .i64 a0_1) ∧ w'.cell? ⟨gb154, 2, none⟩ = some (.int .i64 a0_2) ∧ w'.cell? ⟨gb154, 3, none⟩ = some (.int .i64 a0_3) ∧ w'.cell? ⟨gb154, 4, none⟩ = some (.int .i64 a0_4)) (ds := []) #[ff_,ff_,ff_,ff_,ff_,ff_,ff_,ff_,ff_,ff_,ff_,ff_,ff_,ff_,ff_,ff_] (by kernel_rfl) rfl rfl ⟨(blk_cell BK154.out 0).trans rfl, (blk_cell BK154.out 1).trans rfl, (blk_cell BK154.out 2).trans rfl, (blk_cell BK154.out 3).trans rfl, (blk_cell BK154.out 4).trans rfl⟩ (fun hHeld => ?_); refine with_tabW codec_grid_tiles.tab1 codec_grid_tiles.bits1 (fun HT_ HW_ => ?_)
  generalize w4.drew = w5 at BK154 HB hHeld ⊢
  refine pure_ (i := 2) (N := some 5) (v := ?_) (a' := ?_) #[ff_,ff_,tt_,ff_,ff_,ff_,ff_,ff_,ff_,ff_,ff_,ff_,ff_,ff_,ff_,ff_] rfl rfl (any_of HT_.out (by kernel_rfl)) (fun _ _ _ h => h) (Or.inl ⟨by rfl, ?_⟩) ?_ ?_
  rotate_left
  ·intro w'
   go_simp
   with_reducible rfl
  rotate_left
  ·simp only [Act.put, List.setIfInBounds_toArray, List.set_cons_zero, List.set_cons_succ, i64_w, i32_w]
   rfl
  refine pure_ (i := 3) (N := some 6) (v := ?_) (a' := ?_) #[ff_,ff_,tt_,tt_,ff_,ff_,ff_,ff_,ff_,ff_,ff_,ff_,ff_,ff_,ff_,ff_] rfl rfl (any_of HT_.out (by kernel_rfl)) (fun _ _ _ h => h) (Or.inl ⟨by rfl, ?_⟩) ?_ ?_
  rotate_left
  ·intro w'
   go_simp
   with_reducible rfl
  rotate_left
  ·simp only [Act.put, List.setIfInBounds_toArray, List.set_cons_zero, List.set_cons_succ, i64_w, i32_w]
   rfl
  refine pure_ (i := 5) (N := some 8) (v := ?_) (a' := ?_) #[ff_,ff_,tt_,tt_,ff_,tt_,ff_,ff_,ff_,ff_,ff_,ff_,ff_,ff_,ff_,ff_] rfl rfl (any_of HT_.out (by kernel_rfl)) (fun _ _ _ h => h) (Or.inl ⟨by rfl, ?_⟩) ?_ ?_
  rotate_left
  ·intro w'
   go_simp
   with_reducible rfl
  rotate_left
  ·simp only [Act.put, List.setIfInBounds_toArray, List.set_cons_zero, List.set_cons_succ, i64_w, i32_w]
   rfl
  refine pure_ (i := 6) (N := some 9) (v := ?_) (a' := ?_) #[ff_,ff_,tt_,tt_,ff_,tt_,tt_,ff_,ff_,ff_,ff_,ff_,ff_,ff_,ff_,ff_] rfl rfl (any_of HT_.out (by kernel_rfl)) (fun _ _ _ h => h) (Or.inl ⟨by rfl, ?_⟩) ?_ ?_
  rotate_left
  ·intro w'
   go_simp
   with_reducible rfl
  rotate_left
  ·simp only [Act.put, List.setIfInBounds_toArray, List.set_cons_zero, List.set_cons_succ, i64_w, i32_w]
   rfl
  refine pure_ (i := 10) (N := some 13) (v := ?_) (a' := ?_) #[ff_,ff_,tt_,tt_,ff_,tt_,tt_,ff_,ff_,ff_,tt_,ff_,ff_,ff_,ff_,ff_] rfl rfl (any_of HT_.out (by kernel_rfl)) (fun _ _ _ h => h) (Or.inl ⟨by rfl, ?_⟩) ?_ ?_
  rotate_left
  ·intro w'
   go_simp
   with_reducible rfl
  rotate_left
  ·simp only [Act.put, List.setIfInBounds_toArray, List.set_cons_zero, List.set_cons_succ, i64_w, i32_w]
   rfl
  refine pure_ (i := 11) (N := some 14) (v := ?_) (a' := ?_) #[ff_,ff_,tt_,tt_,ff_,tt_,tt_,ff_,ff_,ff_,tt_,tt_,ff_,ff_,ff_,ff_] rfl rfl (any_of HT_.out (by kernel_rfl)) (fun _ _ _ h => h) (Or.inl ⟨by rfl, ?_⟩) ?_ ?_
  rotate_left
  ·intro w'
   go_simp
   with_reducible rfl
  rotate_left
  ·simp only [Act.put, List.setIfInBounds_toArray, List.set_cons_zero, List.set_cons_succ, i64_w, i32_w]
   rfl
  refine take_ (i := 0) (N := some 3) (v := ?_) (a' := ?_) #[tt_,ff_,tt_,tt_,ff_,tt_,tt_,ff_,ff_,ff_,tt_,tt_,ff_,ff_,ff_,ff_] rfl rfl (take_ofW HT_.out HW_.out (by kernel_rfl)) (fun _ _ _ h => h) (Or.inl ⟨by rfl, ?_⟩) hHeld ?_ ?_
  rotate_left
  ·rintro w' ⟨s0, s1, s2, s3, s4⟩
   go_simp
   with_reducible rfl
  rotate_left
  ·simp only [Act.put, List.setIfInBounds_toArray, List.set_cons_zero, List.set_cons_succ, i64_w, i32_w]
   rfl
  refine take_ (i := 4) (N := some 7) (v := ?_) (a' := ?_) #[tt_,ff_,tt_,tt_,tt_,tt_,tt_,ff_,ff_,ff_,tt_,tt_,ff_,ff_,ff_,ff_] rfl rfl (take_ofW HT_.out HW_.out (by kernel_rfl)) (fun _ _ _ h => h) (Or.inl ⟨by rfl, ?_⟩) hHeld ?_ ?_
  rotate_left
  ·rintro w' ⟨s0, s1, s2, s3, s4⟩
   go_simp
   with_reducible rfl
  rotate_left
  ·simp only [Act.put, List.setIfInBounds_toArray, List.set_cons_zero, List.set_cons_succ, i64_w, i32_w]
   rfl
  refine take_ (i := 7) (N := some 10) (v := ?_) (a' := ?_) #[tt_,ff_,tt_,tt_,tt_,tt_,tt_,tt_,ff_,ff_,tt_,tt_,ff_,ff_,ff_,ff_] rfl rfl (take_ofW HT_.out HW_.out (by kernel_rfl)) (fun _ _ _ h => h) (Or.inl ⟨by rfl, ?_⟩) hHeld ?_ ?_
  rotate_left
  ·rintro w' ⟨s0, s1, s2, s3, s4⟩
   go_simp
   with_reducible rfl
  rotate_left
  ·simp only [Act.put, List.setIfInBounds_toArray, List.set_cons_zero, List.set_cons_succ, i64_w, i32_w]
   rfl
  refine pure_ (i := 8) (N := some 11) (v := ?_) (a' := ?_) #[tt_,ff_,tt_,tt_,tt_,tt_,tt_,tt_,tt_,ff_,tt_,tt_,ff_,ff_,ff_,ff_] rfl rfl (any_of HT_.out (by kernel_rfl)) (fun _ _ _ h => h) (Or.inl ⟨by rfl, ?_⟩) ?_ ?_
  rotate_left
  ·intro w'
   go_simp
   with_reducible rfl
  rotate_left
  ·simp only [Act.put, List.setIfInBounds_toArray, List.set_cons_zero, List.set_cons_succ, i64_w, i32_w]
   rfl
  refine pure_ (i := 9) (N := some 12) (v := ?_) (a' := ?_) #[tt_,ff_,tt_,tt_,tt_,tt_,tt_,tt_,tt_,tt_,tt_,tt_,ff_,ff_,ff_,ff_] rfl rfl (any_of HT_.out (by kernel_rfl)) (fun _ _ _ h => h) (Or.inl ⟨by rfl, ?_⟩) ?_ ?_
  rotate_left
  ·intro w'
   go_simp
   with_reducible rfl
  rotate_left
  ·simp only [Act.put, List.setIfInBounds_toArray, List.set_cons_zero, List.set_cons_succ, i64_w, i32_w]
   rfl
  refine take_ (i := 12) (N := some 15) (v := ?_) (a' := ?_) #[tt_,ff_,tt_,tt_,tt_,tt_,tt_,tt_,tt_,tt_,tt_,tt_,tt_,ff_,ff_,ff_] rfl rfl (take_ofW HT_.out HW_.out (by kernel_rfl)) (fun _ _ _ h => h) (Or.inl ⟨by rfl, ?_⟩) hHeld ?_ ?_
  rotate_left
  ·rintro w' ⟨s0, s1, s2, s3, s4⟩
   go_simp
   with_reducible rfl
  rotate_left
  ·simp only [Act.put, List.setIfInBounds_toArray, List.set_cons_zero, List.set_cons_succ, i64_w, i32_w]
   rfl
  refine pure_ (i := 13) (N := some 16) (v := ?_) (a' := ?_) #[tt_,ff_,tt_,tt_,tt_,tt_,tt_,tt_,tt_,tt_,tt_,tt_,tt_,tt_,ff_,ff_] rfl rfl (any_of HT_.out (by kernel_rfl)) (fun _ _ _ h => h) (Or.inl ⟨by rfl, ?_⟩) ?_ ?_
  rotate_left
  ·intro w'
   go_simp
   with_reducible rfl
  rotate_left
  ·simp only [Act.put, List.setIfInBounds_toArray, List.set_cons_zero, List.set_cons_succ, i64_w, i32_w]
   rfl
  refine one_ (i := 1) (N := some 4) #[tt_,tt_,tt_,tt_,tt_,tt_,tt_,tt_,tt_,tt_,tt_,tt_,tt_,tt_,ff_,ff_] rfl rfl (one_of HT_.out (by kernel_rfl)) (by decide) (fun K hK => ?_)
  refine goes_ Try.func85 (by kernel_rfl) rfl #[.agg #[.int .i64 a0_0, .int .i64 a0_1, .int .i64 a0_2, .int .i64 a0_3, .int .i64 a0_4]] (by rfl) rfl rfl (by (try simp only [List.map_toArray, List.map_cons, List.map_nil]); first | done | rfl | (simp only [List.length_drop, List.length_take]; rfl)) ?_
  with_reducible refine (codec_grid_across.calls a0_0 a0_1 a0_2 a0_3 a0_4 t155 _ A2.out).mono ?_
  rintro e w6 ⟨rfl, hb⟩
  refine ⟨_, rfl, ?_⟩
  have n0_ := Aside0.mk (blk_below (g := gb154) (o := .cells #[.int .i64 a0_0, .int .i64 a0_1, .int .i64 a0_2, .int .i64 a0_3, .int .i64 a0_4] 105 (0, 0)) (by (with_reducible repeat (first | refine blk_drewN ?_ _ | refine blk_drew ?_ | refine blk_alloc ?_ _)); exact BK154.out) hb)
  have n1_ := Aside0.mk (below_step (by repeat (first | (with_reducible first | exact HB.out | apply below_alloc | apply pw_below_drewN | apply below_drew1 | refine below_set ?_ GE154.out) | exact HB.out)) hb)
  clear BK154
  clear HB
  have BK154 := n0_
  have HB := n1_
  clear n0_ n1_
  (try clear hb)
  (try clear hb2)
  (try clear hk)
  (try clear hi)
  refine hK.out _ _ ⟨(blk_cell BK154.out 0).trans rfl, (blk_cell BK154.out 1).trans rfl, (blk_cell BK154.out 2).trans rfl, (blk_cell BK154.out 3).trans rfl, (blk_cell BK154.out 4).trans rfl⟩ (fun hHeld => ?_)
  clear hK K
  refine norm_ (a' := ?_) ?_ ?_
  rotate_left
  ·show Act.put _ (some 4) _ = _
   simp only [Act.put, List.setIfInBounds_toArray, List.set_cons_zero, List.set_cons_succ, i64_w, i32_w]
   rfl
  refine pure_ (i := 14) (N := some 17) (v := ?_) (a' := ?_) #[tt_,tt_,tt_,tt_,tt_,tt_,tt_,tt_,tt_,tt_,tt_,tt_,tt_,tt_,tt_,ff_] rfl rfl (any_of HT_.out (by kernel_rfl)) (fun _ _ _ h => h) (Or.inl ⟨by rfl, ?_⟩) ?_ ?_
  rotate_left
  ·intro w'
   go_simp
   with_reducible rfl
  rotate_left
  ·simp only [Act.put, List.setIfInBounds_toArray, List.set_cons_zero, List.set_cons_succ, i64_w, i32_w]
   rfl
  refine pure_ (i := 15) (N := some 2) (v := ?_) (a' := ?_) #[tt_,tt_,tt_,tt_,tt_,tt_,tt_,tt_,tt_,tt_,tt_,tt_,tt_,tt_,tt_,tt_] rfl rfl (any_of HT_.out (by kernel_rfl)) (fun _ _ _ h => h) (Or.inl ⟨by rfl, ?_⟩) ?_ ?_
  rotate_left
  ·intro w'
   go_simp
   with_reducible rfl
  rotate_left
  ·simp only [Act.put, List.setIfInBounds_toArray, List.set_cons_zero, List.set_cons_succ, i64_w, i32_w]
   rfl
  refine done_ (done_of HT_.out (by kernel_rfl)) ?_
  try go_wp2
  go_ret
  exact ⟨by first | rfl | (simp [errW_none, errW_some] <;> rfl) | (simp [*, errW_none, errW_some] <;> rfl), by repeat (first | (with_reducible first | exact HB.out | apply below_alloc | apply pw_below_drewN | apply below_drew1 | refine below_set ?_ GE154.out) | exact HB.out)⟩

-- NOT PRINTED: function 86 (plane_of)

-- NOT PRINTED: function 88 (plane_maker_made)

-- NOT PRINTED: function 67 (plane_Crop)

end Go.Proofs.Ytbbebhdcfopmmaa.PCodecNames
end
section
namespace Go.Proofs.Ytbbebhdcfopmmaa.PCodecNames
open Go.RowKit Go.Proofs.YtbbebhdcfopmmaaW.PrintWords Go.Proofs.YtbbebhdcfopmmaaW.PrintLast Go.Proofs.YtbbebhdcfopmmaaW.PrintMore
attribute [local go_sem] max2_int min2_int max_two min_two max_three min_three max_four min_four   -- for this text's walks alone
set_option linter.unusedVariables false
set_option linter.unusedSimpArgs false

def codec_grid_rect.f (a0_0 : Int) (a0_1 : Int) (a0_2 : Int) (a0_3 : Int) (a0_4 : Int) (a1 : Int) : Option (Int × Int × Int × Int) := (codec_grid_across.f a0_0 a0_1 a0_2 a0_3 a0_4).bind fun t162 => (if t162 = 0 then (none) else ((codec_grid_across.f a0_0 a0_1 a0_2 a0_3 a0_4).bind fun t163 => (if t163 = 0 then (none) else (some (wrap64 ((Int.tmod a1 t162) * a0_4), wrap64 ((wrap64 (Int.tdiv a1 t163)) * a0_4), mn (wrap64 ((wrap64 ((Int.tmod a1 t162) * a0_4)) + a0_4)) a0_2, mn (wrap64 ((wrap64 ((wrap64 (Int.tdiv a1 t163)) * a0_4)) + a0_4)) a0_3)))))
def codec_grid_rect.T1 : Bool × List (List Nat × List Nat) := (true, [([], []), ([], []), ([1], [1]), ([0, 2], [0, 2]), ([], []), ([4], [4]), ([5], [5]), ([3, 6], [3, 6]), ([], []), ([], []), ([9, 2], [9]), ([8, 10], [8, 10]), ([], []), ([12], [12]), ([13], [13]), ([11, 14], [11, 14]), ([7, 10, 0, 1, 2, 3, 4, 5, 6, 7], [7]), ([15, 16, 0, 1, 2, 3, 4, 5, 6, 7, 8, 9, 10, 11, 12, 13, 14, 15, 16], [15])])
def codec_grid_rect.B1 : List Nat := [0, 0, 2, 7, 0, 16, 48, 127, 0, 0, 518, 1798, 0, 4096, 12288, 32518, 1791, 131071]
theorem codec_grid_rect.tab1 : rtab .any (opsOf Try.f68 1) = codec_grid_rect.T1 := by kernel_rfl
theorem codec_grid_rect.bits1 : waitsOk codec_grid_rect.T1.2 codec_grid_rect.B1 = true := by kernel_rfl
set_option maxHeartbeats 8000000 in
set_option maxRecDepth 100000 in
theorem codec_grid_rect.calls (a0_0 : Int) (a0_1 : Int) (a0_2 : Int) (a0_3 : Int) (a0_4 : Int) (a1 : Int) (r1 : Int) (r2 : Int) (r3 : Int) (r4 : Int) (w : World) (h : codec_grid_rect.f a0_0 a0_1 a0_2 a0_3 a0_4 a1 = some (r1, r2, r3, r4)) :
    Calls Try.prog 68 #[.agg #[.int .i64 a0_0, .int .i64 a0_1, .int .i64 a0_2, .int .i64 a0_3, .int .i64 a0_4], .int .i64 a1] w fun e w' => e = .returned (.agg #[.int .i64 r1, .int .i64 r2, .int .i64 r3, .int .i64 r4]) ∧ Below w.heap.size w w' := by
 have hu105 := Try.underlying105
 have hu73 := Try.underlying73
 have HB := Aside0.mk (Below.refl w.heap.size w)
 have H : ((codec_grid_across.f a0_0 a0_1 a0_2 a0_3 a0_4).bind fun t162 => (if t162 = 0 then (none) else ((codec_grid_across.f a0_0 a0_1 a0_2 a0_3 a0_4).bind fun t163 => (if t163 = 0 then (none) else (some (wrap64 ((Int.tmod a1 t162) * a0_4), wrap64 ((wrap64 (Int.tdiv a1 t163)) * a0_4), mn (wrap64 ((wrap64 ((Int.tmod a1 t162) * a0_4)) + a0_4)) a0_2, mn (wrap64 ((wrap64 ((wrap64 (Int.tdiv a1 t163)) * a0_4)) + a0_4)) a0_3)))))) = some (r1, r2, r3, r4) := h
 clear h
 replace H := Option.bind_eq_some_iff.mp H
 obtain ⟨t162, A30, H⟩ := H
 replace H : (if t162 = 0 then (none) else ((codec_grid_across.f a0_0 a0_1 a0_2 a0_3 a0_4).bind fun t163 => (if t163 = 0 then (none) else (some (wrap64 ((Int.tmod a1 t162) * a0_4), wrap64 ((wrap64 (Int.tdiv a1 t163)) * a0_4), mn (wrap64 ((wrap64 ((Int.tmod a1 t162) * a0_4)) + a0_4)) a0_2, mn (wrap64 ((wrap64 ((wrap64 (Int.tdiv a1 t163)) * a0_4)) + a0_4)) a0_3))))) = some (r1, r2, r3, r4) := H
 have A3 := Aside0.mk A30
 clear A30
 by_cases c4 : t162 = 0
 ·rw [if_pos c4] at H
  exact absurd H (by simp)
 ·rw [if_neg c4] at H
  have c4b0 : (t162 == 0) = false := beq_eq_false_iff_ne.mpr c4
  have c4b1 : (t162 != 0) = true := bne_iff_ne.mpr c4
  replace H := Option.bind_eq_some_iff.mp H
  obtain ⟨t163, A50, H⟩ := H
  replace H : (if t163 = 0 then (none) else (some (wrap64 ((Int.tmod a1 t162) * a0_4), wrap64 ((wrap64 (Int.tdiv a1 t163)) * a0_4), mn (wrap64 ((wrap64 ((Int.tmod a1 t162) * a0_4)) + a0_4)) a0_2, mn (wrap64 ((wrap64 ((wrap64 (Int.tdiv a1 t163)) * a0_4)) + a0_4)) a0_3))) = some (r1, r2, r3, r4) := H
  have A5 := Aside0.mk A50
  clear A50
  by_cases c6 : t163 = 0
  ·rw [if_pos c6] at H
   exact absurd H (by simp)
  ·rw [if_neg c6] at H
   have c6b0 : (t163 == 0) = false := beq_eq_false_iff_ne.mpr c6
   have c6b1 : (t163 != 0) = true := bne_iff_ne.mpr c6
   obtain ⟨ji7, hji7⟩ : ∃ j_ : Int, (mn (wrap64 ((wrap64 ((Int.tmod a1 t162) * a0_4)) + a0_4)) a0_2) = j_ := ⟨_, rfl⟩
   replace H : (some (wrap64 ((Int.tmod a1 t162) * a0_4), wrap64 ((wrap64 (Int.tdiv a1 t163)) * a0_4), ji7, mn (wrap64 ((wrap64 ((wrap64 (Int.tdiv a1 t163)) * a0_4)) + a0_4)) a0_3)) = some (r1, r2, r3, r4) := by first | (rw [hji7] at H; exact H) | (simp only [hji7] at H ⊢; exact H)
   (try rw [hji7] at A3)
   (try rw [hji7] at A5)
   have hji7_ : (if a0_2 < (wrap64 ((wrap64 ((Int.tmod a1 t162) * a0_4)) + a0_4)) then a0_2 else (wrap64 ((wrap64 ((Int.tmod a1 t162) * a0_4)) + a0_4))) = ji7 := hji7
   obtain ⟨ji8, hji8⟩ : ∃ j_ : Int, (mn (wrap64 ((wrap64 ((wrap64 (Int.tdiv a1 t163)) * a0_4)) + a0_4)) a0_3) = j_ := ⟨_, rfl⟩
   replace H : (some (wrap64 ((Int.tmod a1 t162) * a0_4), wrap64 ((wrap64 (Int.tdiv a1 t163)) * a0_4), ji7, ji8)) = some (r1, r2, r3, r4) := by first | (rw [hji8] at H; exact H) | (simp only [hji8] at H ⊢; exact H)
   (try rw [hji8] at A3)
   (try rw [hji8] at A5)
   have hji8_ : (if a0_3 < (wrap64 ((wrap64 ((wrap64 (Int.tdiv a1 t163)) * a0_4)) + a0_4)) then a0_3 else (wrap64 ((wrap64 ((wrap64 (Int.tdiv a1 t163)) * a0_4)) + a0_4))) = ji8 := hji8
   simp only [Option.some.injEq, Prod.mk.injEq] at H
   obtain ⟨rfl, rfl, rfl, rfl⟩ := H
   go_enter Try.func68, Try.ntmps68
   try go_wp2_with (first | ((with_reducible refine gate_dst (N := 2) rfl ?_); refine box_event ?hg (N := 2) ?hd (cs := #[.int .i64 a0_0, .int .i64 a0_1, .int .i64 a0_2, .int .i64 a0_3, .int .i64 a0_4]) (t := 105) ?hr ?_; (case hd => rfl); (case hg => rfl); (case hr => first | (go_simp; done) | (go_simp; rfl)); intro gb160 hg w9 hbox hb; have n0_ := Aside0.mk (below_step (by repeat (first | (with_reducible first | exact HB.out | apply below_alloc | apply pw_below_drewN | apply below_drew1) | exact HB.out)) hb); have n1_ := Aside0.mk (hbox); have n2_ := Aside0.mk ((by rw [hg]; exact (below_size (by repeat (first | (with_reducible first | exact HB.out | apply below_alloc | apply pw_below_drewN | apply below_drew1) | exact HB.out))) : w.heap.size ≤ gb160)); have n3_ := Aside0.mk ((by rw [hg]; exact (below_size (by repeat (first | (with_reducible first | exact HB.out | apply below_alloc | apply pw_below_drewN | apply below_drew1) | exact HB.out))) : w.heap.size ≤ gb160)); clear HB; have HB := n0_; have BK160 := n1_; have GW160 := n2_; have GE160 := n3_; clear n0_ n1_ n2_ n3_; clear hb hbox hg) | ((with_reducible refine gate_dst (N := 4) rfl ?_); refine box_event ?hg (N := 4) ?hd (cs := #[.int .i64 0, .int .i64 0, .int .i64 0, .int .i64 0]) (t := 73) ?hr ?_; (case hd => rfl); (case hg => rfl); (case hr => first | (go_simp; done) | (go_simp; rfl)); intro gb161 hg w10 hbox hb; have n0_ := Aside0.mk (blk_below (g := gb160) (o := .cells #[.int .i64 a0_0, .int .i64 a0_1, .int .i64 a0_2, .int .i64 a0_3, .int .i64 a0_4] 105 (0, 0)) (by (with_reducible repeat (first | refine blk_drewN ?_ _ | refine blk_drew ?_ | refine blk_alloc ?_ _)); exact BK160.out) hb); have n1_ := Aside0.mk (below_step (by repeat (first | (with_reducible first | exact HB.out | apply below_alloc | apply pw_below_drewN | apply below_drew1 | refine below_set ?_ GE160.out) | exact HB.out)) hb); have n2_ := Aside0.mk (hbox); have n3_ := Aside0.mk ((by rw [hg]; exact (below_size (by repeat (first | (with_reducible first | exact HB.out | apply below_alloc | apply pw_below_drewN | apply below_drew1 | refine below_set ?_ GE160.out) | exact HB.out))) : w.heap.size ≤ gb161)); have n4_ := Aside0.mk ((by rw [hg]; exact (below_size (by repeat (first | (with_reducible first | exact HB.out | apply below_alloc | apply pw_below_drewN | apply below_drew1 | refine below_set ?_ GE160.out) | exact HB.out))) : w.heap.size ≤ gb161)); have n5_ := Aside0.mk ((by rw [hg]; exact Nat.ne_of_lt (blk_lt (g := gb160) (o := .cells #[.int .i64 a0_0, .int .i64 a0_1, .int .i64 a0_2, .int .i64 a0_3, .int .i64 a0_4] 105 (0, 0)) (by (with_reducible repeat (first | refine blk_drewN ?_ _ | refine blk_drew ?_ | refine blk_alloc ?_ _)); exact BK160.out)) : gb160 ≠ gb161)); have n6_ := Aside0.mk ((by rw [hg]; exact Nat.ne_of_gt (blk_lt (g := gb160) (o := .cells #[.int .i64 a0_0, .int .i64 a0_1, .int .i64 a0_2, .int .i64 a0_3, .int .i64 a0_4] 105 (0, 0)) (by (with_reducible repeat (first | refine blk_drewN ?_ _ | refine blk_drew ?_ | refine blk_alloc ?_ _)); exact BK160.out)) : gb161 ≠ gb160)); clear BK160; clear HB; have BK160 := n0_; have HB := n1_; have BK161 := n2_; have GW161 := n3_; have GE161 := n4_; have NB160_161 := n5_; have NB161_160 := n6_; clear n0_ n1_ n2_ n3_ n4_ n5_ n6_; clear hb hbox hg))
   have n0_ := Aside0.mk (blk_drew BK160.out)
   have n1_ := Aside0.mk (blk_drew BK161.out)
   have n2_ := Aside0.mk (below_drew1 HB.out)
   clear BK160
   clear BK161
   clear HB
   have BK160 := n0_
   have BK161 := n1_
   have HB := n2_
   clear n0_ n1_ n2_
   refine start_ (n := 18) (S := fun w' => w'.cell? ⟨gb160, 0, none⟩ = some (.int .i64 a0_0) ∧ w'.cell? ⟨gb160, 1, none⟩ = some (.int .i64 a0_1) ∧ w'.cell? ⟨gb160, 2, none⟩ = some (.int .i64 a0_2) ∧ w'.cell? ⟨gb160, 3, none⟩ = some (.int .i64 a0_3) ∧ w'.cell? ⟨gb160, 4, none⟩ = some (.int .i64 a0_4)) (ds := []) #[ff_,ff_,ff_,ff_,ff_,ff_,ff_,ff_,ff_,ff_,ff_,ff_,ff_,ff_,ff_,ff_,ff_,ff_] (by kernel_rfl) rfl rfl ⟨(blk_cell BK160.out 0).trans rfl, (blk_cell BK160.out 1).trans rfl, (blk_cell BK160.out 2).trans rfl, (blk_cell BK160.out 3).trans rfl, (blk_cell BK160.out 4).trans rfl⟩ (fun hHeld => ?_); refine with_tabW codec_grid_rect.tab1 codec_grid_rect.bits1 (fun HT_ HW_ => ?_)
   generalize w10.drew = w11 at BK160 BK161 HB hHeld ⊢
   refine pure_ (i := 0) (N := some 7) (v := ?_) (a' := ?_) #[tt_,ff_,ff_,ff_,ff_,ff_,ff_,ff_,ff_,ff_,ff_,ff_,ff_,ff_,ff_,ff_,ff_,ff_] rfl rfl (any_of HT_.out (by kernel_rfl)) (fun _ _ _ h => h) (Or.inl ⟨by rfl, ?_⟩) ?_ ?_
   rotate_left
   ·intro w'
    go_simp
    with_reducible rfl
   rotate_left
   ·simp only [Act.put, List.setIfInBounds_toArray, List.set_cons_zero, List.set_cons_succ, i64_w, i32_w]
    rfl
   refine pure_ (i := 4) (N := some 11) (v := ?_) (a' := ?_) #[tt_,ff_,ff_,ff_,tt_,ff_,ff_,ff_,ff_,ff_,ff_,ff_,ff_,ff_,ff_,ff_,ff_,ff_] rfl rfl (any_of HT_.out (by kernel_rfl)) (fun _ _ _ h => h) (Or.inl ⟨by rfl, ?_⟩) ?_ ?_
   rotate_left
   ·intro w'
    go_simp
    with_reducible rfl
   rotate_left
   ·simp only [Act.put, List.setIfInBounds_toArray, List.set_cons_zero, List.set_cons_succ, i64_w, i32_w]
    rfl
   refine pure_ (i := 5) (N := some 12) (v := ?_) (a' := ?_) #[tt_,ff_,ff_,ff_,tt_,tt_,ff_,ff_,ff_,ff_,ff_,ff_,ff_,ff_,ff_,ff_,ff_,ff_] rfl rfl (any_of HT_.out (by kernel_rfl)) (fun _ _ _ h => h) (Or.inl ⟨by rfl, ?_⟩) ?_ ?_
   rotate_left
   ·intro w'
    go_simp
    with_reducible rfl
   rotate_left
   ·simp only [Act.put, List.setIfInBounds_toArray, List.set_cons_zero, List.set_cons_succ, i64_w, i32_w]
    rfl
   refine pure_ (i := 8) (N := some 15) (v := ?_) (a' := ?_) #[tt_,ff_,ff_,ff_,tt_,tt_,ff_,ff_,tt_,ff_,ff_,ff_,ff_,ff_,ff_,ff_,ff_,ff_] rfl rfl (any_of HT_.out (by kernel_rfl)) (fun _ _ _ h => h) (Or.inl ⟨by rfl, ?_⟩) ?_ ?_
   rotate_left
   ·intro w'
    go_simp
    with_reducible rfl
   rotate_left
   ·simp only [Act.put, List.setIfInBounds_toArray, List.set_cons_zero, List.set_cons_succ, i64_w, i32_w]
    rfl
   refine pure_ (i := 12) (N := some 19) (v := ?_) (a' := ?_) #[tt_,ff_,ff_,ff_,tt_,tt_,ff_,ff_,tt_,ff_,ff_,ff_,tt_,ff_,ff_,ff_,ff_,ff_] rfl rfl (any_of HT_.out (by kernel_rfl)) (fun _ _ _ h => h) (Or.inl ⟨by rfl, ?_⟩) ?_ ?_
   rotate_left
   ·intro w'
    go_simp
    with_reducible rfl
   rotate_left
   ·simp only [Act.put, List.setIfInBounds_toArray, List.set_cons_zero, List.set_cons_succ, i64_w, i32_w]
    rfl
   refine pure_ (i := 13) (N := some 20) (v := ?_) (a' := ?_) #[tt_,ff_,ff_,ff_,tt_,tt_,ff_,ff_,tt_,ff_,ff_,ff_,tt_,tt_,ff_,ff_,ff_,ff_] rfl rfl (any_of HT_.out (by kernel_rfl)) (fun _ _ _ h => h) (Or.inl ⟨by rfl, ?_⟩) ?_ ?_
   rotate_left
   ·intro w'
    go_simp
    with_reducible rfl
   rotate_left
   ·simp only [Act.put, List.setIfInBounds_toArray, List.set_cons_zero, List.set_cons_succ, i64_w, i32_w]
    rfl
   refine take_ (i := 1) (N := some 8) (v := ?_) (a' := ?_) #[tt_,tt_,ff_,ff_,tt_,tt_,ff_,ff_,tt_,ff_,ff_,ff_,tt_,tt_,ff_,ff_,ff_,ff_] rfl rfl (take_ofW HT_.out HW_.out (by kernel_rfl)) (fun _ _ _ h => h) (Or.inl ⟨by rfl, ?_⟩) hHeld ?_ ?_
   rotate_left
   ·rintro w' ⟨s0, s1, s2, s3, s4⟩
    go_simp
    with_reducible rfl
   rotate_left
   ·simp only [Act.put, List.setIfInBounds_toArray, List.set_cons_zero, List.set_cons_succ, i64_w, i32_w]
    rfl
   refine take_ (i := 6) (N := some 13) (v := ?_) (a' := ?_) #[tt_,tt_,ff_,ff_,tt_,tt_,tt_,ff_,tt_,ff_,ff_,ff_,tt_,tt_,ff_,ff_,ff_,ff_] rfl rfl (take_ofW HT_.out HW_.out (by kernel_rfl)) (fun _ _ _ h => h) (Or.inl ⟨by rfl, ?_⟩) hHeld ?_ ?_
   rotate_left
   ·rintro w' ⟨s0, s1, s2, s3, s4⟩
    go_simp
    with_reducible rfl
   rotate_left
   ·simp only [Act.put, List.setIfInBounds_toArray, List.set_cons_zero, List.set_cons_succ, i64_w, i32_w]
    rfl
   refine take_ (i := 9) (N := some 16) (v := ?_) (a' := ?_) #[tt_,tt_,ff_,ff_,tt_,tt_,tt_,ff_,tt_,tt_,ff_,ff_,tt_,tt_,ff_,ff_,ff_,ff_] rfl rfl (take_ofW HT_.out HW_.out (by kernel_rfl)) (fun _ _ _ h => h) (Or.inl ⟨by rfl, ?_⟩) hHeld ?_ ?_
   rotate_left
   ·rintro w' ⟨s0, s1, s2, s3, s4⟩
    go_simp
    with_reducible rfl
   rotate_left
   ·simp only [Act.put, List.setIfInBounds_toArray, List.set_cons_zero, List.set_cons_succ, i64_w, i32_w]
    rfl
   refine take_ (i := 14) (N := some 21) (v := ?_) (a' := ?_) #[tt_,tt_,ff_,ff_,tt_,tt_,tt_,ff_,tt_,tt_,ff_,ff_,tt_,tt_,tt_,ff_,ff_,ff_] rfl rfl (take_ofW HT_.out HW_.out (by kernel_rfl)) (fun _ _ _ h => h) (Or.inl ⟨by rfl, ?_⟩) hHeld ?_ ?_
   rotate_left
   ·rintro w' ⟨s0, s1, s2, s3, s4⟩
    go_simp
    with_reducible rfl
   rotate_left
   ·simp only [Act.put, List.setIfInBounds_toArray, List.set_cons_zero, List.set_cons_succ, i64_w, i32_w]
    rfl
   refine one_ (i := 2) (N := some 9) #[tt_,tt_,tt_,ff_,tt_,tt_,tt_,ff_,tt_,tt_,ff_,ff_,tt_,tt_,tt_,ff_,ff_,ff_] rfl rfl (one_of HT_.out (by kernel_rfl)) (by decide) (fun K hK => ?_)
   refine goes_ Try.func85 (by kernel_rfl) rfl #[.agg #[.int .i64 a0_0, .int .i64 a0_1, .int .i64 a0_2, .int .i64 a0_3, .int .i64 a0_4]] (by rfl) rfl rfl (by (try simp only [List.map_toArray, List.map_cons, List.map_nil]); first | done | rfl | (simp only [List.length_drop, List.length_take]; rfl)) ?_
   with_reducible refine (codec_grid_across.calls a0_0 a0_1 a0_2 a0_3 a0_4 t162 _ A3.out).mono ?_
   rintro e w12 ⟨rfl, hb⟩
   refine ⟨_, rfl, ?_⟩
   have n0_ := Aside0.mk (blk_below (g := gb160) (o := .cells #[.int .i64 a0_0, .int .i64 a0_1, .int .i64 a0_2, .int .i64 a0_3, .int .i64 a0_4] 105 (0, 0)) (by (with_reducible repeat (first | refine blk_drewN ?_ _ | refine blk_drew ?_ | refine blk_alloc ?_ _)); exact BK160.out) hb)
   have n1_ := Aside0.mk (blk_below (g := gb161) (o := .cells #[.int .i64 0, .int .i64 0, .int .i64 0, .int .i64 0] 73 (0, 0)) (by (with_reducible repeat (first | refine blk_drewN ?_ _ | refine blk_drew ?_ | refine blk_alloc ?_ _)); exact BK161.out) hb)
   have n2_ := Aside0.mk (below_step (by repeat (first | (with_reducible first | exact HB.out | apply below_alloc | apply pw_below_drewN | apply below_drew1 | refine below_set ?_ GE160.out | refine below_set ?_ GE161.out) | exact HB.out)) hb)
   clear BK160
   clear BK161
   clear HB
   have BK160 := n0_
   have BK161 := n1_
   have HB := n2_
   clear n0_ n1_ n2_
   (try clear hb)
   (try clear hb2)
   (try clear hk)
   (try clear hi)
   refine hK.out _ _ ⟨(blk_cell BK160.out 0).trans rfl, (blk_cell BK160.out 1).trans rfl, (blk_cell BK160.out 2).trans rfl, (blk_cell BK160.out 3).trans rfl, (blk_cell BK160.out 4).trans rfl⟩ (fun hHeld => ?_)
   clear hK K
   refine norm_ (a' := ?_) ?_ ?_
   rotate_left
   ·show Act.put _ (some 9) _ = _
    simp only [Act.put, List.setIfInBounds_toArray, List.set_cons_zero, List.set_cons_succ, i64_w, i32_w]
    rfl
   refine pure_ (i := 3) (N := some 10) (v := ?_) (a' := ?_) #[tt_,tt_,tt_,tt_,tt_,tt_,tt_,ff_,tt_,tt_,ff_,ff_,tt_,tt_,tt_,ff_,ff_,ff_] rfl rfl (any_of HT_.out (by kernel_rfl)) (fun _ _ _ h => h) (Or.inl ⟨by rfl, ?_⟩) ?_ ?_
   rotate_left
   ·intro w'
    go_simp
    with_reducible rfl
   rotate_left
   ·simp only [Act.put, List.setIfInBounds_toArray, List.set_cons_zero, List.set_cons_succ, i64_w, i32_w]
    rfl
   refine pure_ (i := 7) (N := some 14) (v := ?_) (a' := ?_) #[tt_,tt_,tt_,tt_,tt_,tt_,tt_,tt_,tt_,tt_,ff_,ff_,tt_,tt_,tt_,ff_,ff_,ff_] rfl rfl (any_of HT_.out (by kernel_rfl)) (fun _ _ _ h => h) (Or.inl ⟨by rfl, ?_⟩) ?_ ?_
   rotate_left
   ·intro w'
    go_simp
    with_reducible rfl
   rotate_left
   ·simp only [Act.put, List.setIfInBounds_toArray, List.set_cons_zero, List.set_cons_succ, i64_w, i32_w]
    rfl
   refine one_ (i := 10) (N := some 17) #[tt_,tt_,tt_,tt_,tt_,tt_,tt_,tt_,tt_,tt_,tt_,ff_,tt_,tt_,tt_,ff_,ff_,ff_] rfl rfl (one_of HT_.out (by kernel_rfl)) (by decide) (fun K hK => ?_)
   refine goes_ Try.func85 (by kernel_rfl) rfl #[.agg #[.int .i64 a0_0, .int .i64 a0_1, .int .i64 a0_2, .int .i64 a0_3, .int .i64 a0_4]] (by rfl) rfl rfl (by (try simp only [List.map_toArray, List.map_cons, List.map_nil]); first | done | rfl | (simp only [List.length_drop, List.length_take]; rfl)) ?_
   with_reducible refine (codec_grid_across.calls a0_0 a0_1 a0_2 a0_3 a0_4 t163 _ A5.out).mono ?_
   rintro e w13 ⟨rfl, hb⟩
   refine ⟨_, rfl, ?_⟩
   have n0_ := Aside0.mk (blk_below (g := gb160) (o := .cells #[.int .i64 a0_0, .int .i64 a0_1, .int .i64 a0_2, .int .i64 a0_3, .int .i64 a0_4] 105 (0, 0)) (by (with_reducible repeat (first | refine blk_drewN ?_ _ | refine blk_drew ?_ | refine blk_alloc ?_ _)); exact BK160.out) hb)
   have n1_ := Aside0.mk (blk_below (g := gb161) (o := .cells #[.int .i64 0, .int .i64 0, .int .i64 0, .int .i64 0] 73 (0, 0)) (by (with_reducible repeat (first | refine blk_drewN ?_ _ | refine blk_drew ?_ | refine blk_alloc ?_ _)); exact BK161.out) hb)
   have n2_ := Aside0.mk (below_step (by repeat (first | (with_reducible first | exact HB.out | apply below_alloc | apply pw_below_drewN | apply below_drew1 | refine below_set ?_ GE160.out | refine below_set ?_ GE161.out) | exact HB.out)) hb)
   clear BK160
   clear BK161
   clear HB
   have BK160 := n0_
   have BK161 := n1_
   have HB := n2_
   clear n0_ n1_ n2_
   (try clear hb)
   (try clear hb2)
   (try clear hk)
   (try clear hi)
   refine hK.out _ _ ⟨(blk_cell BK160.out 0).trans rfl, (blk_cell BK160.out 1).trans rfl, (blk_cell BK160.out 2).trans rfl, (blk_cell BK160.out 3).trans rfl, (blk_cell BK160.out 4).trans rfl⟩ (fun hHeld => ?_)
   clear hK K
   refine norm_ (a' := ?_) ?_ ?_
   rotate_left
   ·show Act.put _ (some 17) _ = _
    simp only [Act.put, List.setIfInBounds_toArray, List.set_cons_zero, List.set_cons_succ, i64_w, i32_w]
    rfl
   refine pure_ (i := 11) (N := some 18) (v := ?_) (a' := ?_) #[tt_,tt_,tt_,tt_,tt_,tt_,tt_,tt_,tt_,tt_,tt_,tt_,tt_,tt_,tt_,ff_,ff_,ff_] rfl rfl (any_of HT_.out (by kernel_rfl)) (fun _ _ _ h => h) (Or.inl ⟨by rfl, ?_⟩) ?_ ?_
   rotate_left
   ·intro w'
    go_simp
    with_reducible rfl
   rotate_left
   ·simp only [Act.put, List.setIfInBounds_toArray, List.set_cons_zero, List.set_cons_succ, i64_w, i32_w]
    rfl
   refine pure_ (i := 15) (N := some 22) (v := ?_) (a' := ?_) #[tt_,tt_,tt_,tt_,tt_,tt_,tt_,tt_,tt_,tt_,tt_,tt_,tt_,tt_,tt_,tt_,ff_,ff_] rfl rfl (any_of HT_.out (by kernel_rfl)) (fun _ _ _ h => h) (Or.inl ⟨by rfl, ?_⟩) ?_ ?_
   rotate_left
   ·intro w'
    go_simp
    with_reducible rfl
   rotate_left
   ·simp only [Act.put, List.setIfInBounds_toArray, List.set_cons_zero, List.set_cons_succ, i64_w, i32_w]
    rfl
   refine pure_ (i := 16) (N := some 5) (v := ?_) (a' := ?_) #[tt_,tt_,tt_,tt_,tt_,tt_,tt_,tt_,tt_,tt_,tt_,tt_,tt_,tt_,tt_,tt_,tt_,ff_] rfl rfl (any_of HT_.out (by kernel_rfl)) (fun _ _ _ h => h) (Or.inl ⟨by rfl, ?_⟩) ?_ ?_
   rotate_left
   ·intro w'
    go_simp
    with_reducible rfl
   rotate_left
   ·simp only [Act.put, List.setIfInBounds_toArray, List.set_cons_zero, List.set_cons_succ, i64_w, i32_w]
    rfl
   refine pure_ (i := 17) (N := some 6) (v := ?_) (a' := ?_) #[tt_,tt_,tt_,tt_,tt_,tt_,tt_,tt_,tt_,tt_,tt_,tt_,tt_,tt_,tt_,tt_,tt_,tt_] rfl rfl (any_of HT_.out (by kernel_rfl)) (fun _ _ _ h => h) (Or.inl ⟨by rfl, ?_⟩) ?_ ?_
   rotate_left
   ·intro w'
    go_simp
    with_reducible rfl
   rotate_left
   ·simp only [Act.put, List.setIfInBounds_toArray, List.set_cons_zero, List.set_cons_succ, i64_w, i32_w]
    rfl
   refine done_ (done_of HT_.out (by kernel_rfl)) ?_
   have hnb14 := NB160_161.out
   have hnc14 := NB161_160.out
   have hcz15_0 : w13.cell? ⟨gb160, 0, none⟩ = some (.int .i64 a0_0) := (blk_cell BK160.out 0).trans rfl
   have hcz15_1 : w13.cell? ⟨gb160, 1, none⟩ = some (.int .i64 a0_1) := (blk_cell BK160.out 1).trans rfl
   have hcz15_2 : w13.cell? ⟨gb160, 2, none⟩ = some (.int .i64 a0_2) := (blk_cell BK160.out 2).trans rfl
   have hcz15_3 : w13.cell? ⟨gb160, 3, none⟩ = some (.int .i64 a0_3) := (blk_cell BK160.out 3).trans rfl
   have hcz15_4 : w13.cell? ⟨gb160, 4, none⟩ = some (.int .i64 a0_4) := (blk_cell BK160.out 4).trans rfl
   have hfz15_0 := blk_frozen BK160.out 0
   have hfz15_1 := blk_frozen BK160.out 1
   have hfz15_2 := blk_frozen BK160.out 2
   have hfz15_3 := blk_frozen BK160.out 3
   have hfz15_4 := blk_frozen BK160.out 4
   have hcz16_0 : w13.cell? ⟨gb161, 0, none⟩ = some (.int .i64 0) := (blk_cell BK161.out 0).trans rfl
   have hcz16_1 : w13.cell? ⟨gb161, 1, none⟩ = some (.int .i64 0) := (blk_cell BK161.out 1).trans rfl
   have hcz16_2 : w13.cell? ⟨gb161, 2, none⟩ = some (.int .i64 0) := (blk_cell BK161.out 2).trans rfl
   have hcz16_3 : w13.cell? ⟨gb161, 3, none⟩ = some (.int .i64 0) := (blk_cell BK161.out 3).trans rfl
   have hfz16_0 := blk_frozen BK161.out 0
   have hfz16_1 := blk_frozen BK161.out 1
   have hfz16_2 := blk_frozen BK161.out 2
   have hfz16_3 := blk_frozen BK161.out 3
   try go_wp2
   refine bodyPost_ret (results_cell_row rfl _ _ gb161 73 #[.int .i64 (wrap64 ((Int.tmod a1 t162) * a0_4)), .int .i64 (wrap64 ((wrap64 (Int.tdiv a1 t163)) * a0_4)), .int .i64 ji7, .int .i64 ji8] (0, 0) _ rfl (by (with_reducible repeat (first | refine blk_drewN ?_ _ | refine blk_drew ?_ | refine blk_alloc ?_ _)); refine blk_put (cs := #[.int .i64 (wrap64 ((Int.tmod a1 t162) * a0_4)), .int .i64 (wrap64 ((wrap64 (Int.tdiv a1 t163)) * a0_4)), .int .i64 ji7, .int .i64 0]) ?_ 3 _ rfl; (with_reducible repeat (first | refine blk_drewN ?_ _ | refine blk_drew ?_ | refine blk_alloc ?_ _)); refine blk_put (cs := #[.int .i64 (wrap64 ((Int.tmod a1 t162) * a0_4)), .int .i64 (wrap64 ((wrap64 (Int.tdiv a1 t163)) * a0_4)), .int .i64 0, .int .i64 0]) ?_ 2 _ rfl; (with_reducible repeat (first | refine blk_drewN ?_ _ | refine blk_drew ?_ | refine blk_alloc ?_ _)); refine blk_put (cs := #[.int .i64 (wrap64 ((Int.tmod a1 t162) * a0_4)), .int .i64 0, .int .i64 0, .int .i64 0]) ?_ 1 _ rfl; (with_reducible repeat (first | refine blk_drewN ?_ _ | refine blk_drew ?_ | refine blk_alloc ?_ _)); refine blk_put (cs := #[.int .i64 0, .int .i64 0, .int .i64 0, .int .i64 0]) ?_ 0 _ rfl; (with_reducible repeat (first | refine blk_drewN ?_ _ | refine blk_drew ?_ | refine blk_alloc ?_ _)); exact BK161.out) Try.underlying73 rfl (by kernel_rfl)) rfl ?_
   exact ⟨by first | rfl | (simp [errW_none, errW_some] <;> rfl) | (simp only [← hji7, ← hji8]; first | rfl | (simp [errW_none, errW_some] <;> rfl)) | (simp [*, errW_none, errW_some] <;> rfl), by repeat (first | (with_reducible first | exact HB.out | apply below_alloc | apply pw_below_drewN | apply below_drew1 | refine below_set ?_ GE160.out | refine below_set ?_ GE161.out) | exact HB.out)⟩

def codec_number.l0 : Nat → Int → List Int → Int → Int → Option (Int)
 | 0, _, _, _, _ => none
 | k + 1, x3, x6, x7, x8 => if x8 < x7 then (if 0 ≤ x8 then (if x8 < (x6.length : Int) then (codec_number.l0 k (Go.bits .or .i64 (wrap64 (x3 * 256)) (wrap64 (rd x6 x8))) x6 x7 (wrap64 (x8 + 1))) else (none)) else (none)) else (some x3)
def codec_number.f (k : Nat) (l0 : List Int) : Option (Int) := codec_number.l0 k 0 l0 (l0.length : Int) 0
set_option maxHeartbeats 8000000 in
set_option maxRecDepth 100000 in
theorem codec_number.calls (k : Nat) (A0 : Option Addr) (c0 : Nat) (l0 : List Int) (r : Int) (w : World) (hr0 : Kd.C (Kd.int .u8) w A0 l0.length l0) (hc0 : l0.length ≤ c0) (h : codec_number.f k l0 = some r) :
    Calls Try.prog 94 #[.slice A0 l0.length c0] w fun e w' => e = .returned (.int .i64 r) ∧ Drawn0 w w' := by
 have HR0 := Aside0.mk hr0
 have HC0 := Aside0.mk hc0
 clear hr0 hc0
 have H : (codec_number.l0 k 0 l0 (l0.length : Int) 0) = some r := h
 clear h
 have H' := Aside0.mk H
 clear H
 go_enter Try.func94, Try.ntmps94
 go_wp2
 go_loopg [3, 8] k (fun kq v3 v8 w' => ∃ (x3_1 : Int) (x8_1 : Int), v3 = .int .i64 x3_1 ∧ v8 = .int .i64 x8_1 ∧ Aside0 (codec_number.l0 kq x3_1 l0 (l0.length : Int) x8_1 = some r) ∧ Aside0 (kq ≤ k) ∧ Drawn0 w w')
 case atStart => exact ⟨(0), (0), (by first | rfl | (simp; done) | (simp [*]; done)), (by first | rfl | (simp; done) | (simp [*]; done)), H', ⟨Nat.le_refl _⟩, by repeat (first | exact Drawn0.refl _ | apply Drawn0.step)⟩
 case round =>
  clear H'
  obtain ⟨x3_1, x8_1, rfl, rfl, HA, HK1, ⟨m1, rfl⟩⟩ := hrel
  cases gk with
  | zero => exact absurd HA.out (by simp [codec_number.l0])
  | succ k1 =>
   have H := HA.out
   clear HA
   simp only [codec_number.l0] at H
   by_cases c2 : x8_1 < (l0.length : Int)
   ·rw [if_pos c2] at H
    have c2b0 : decide (x8_1 < (l0.length : Int)) = true := decide_eq_true c2
    clear c2
    by_cases c3 : 0 ≤ x8_1
    ·rw [if_pos c3] at H
     have c3b0 : decide (0 ≤ x8_1) = true := decide_eq_true c3
     clear c3
     by_cases c4 : x8_1 < (l0.length : Int)
     ·rw [if_pos c4] at H
      have c4b0 : decide (x8_1 < (l0.length : Int)) = true := decide_eq_true c4
      clear c4
      have H' := Aside0.mk H
      clear H
      have p170 : 0 ≤ (x8_1 : Int) := of_decide_eq_true (by first | (with_reducible assumption) | assumption)
      have q170 : x8_1 < (l0.length : Int) := of_decide_eq_true (by first | (with_reducible assumption) | assumption)
      obtain ⟨ad170, e170, hx170_0⟩ := Kd.at_int HR0.out x8_1 p170 q170
      cases e170
      replace p170 := eq_true p170
      replace q170 := eq_true q170
      go_wp2
      go_roundg k1
      case measure => have := HK1.out; omega
      case rel => exact ⟨(Go.bits .or .i64 (wrap64 (x3_1 * 256)) (wrap64 (rd l0 x8_1))), (wrap64 (x8_1 + 1)), (by first | rfl | (simp; done) | (simp [*]; done)), (by first | rfl | (simp; done) | (simp [*]; done)), H', ⟨by have := HK1.out; omega⟩, by repeat (first | exact Drawn0.refl _ | apply Drawn0.step)⟩
     ·rw [if_neg c4] at H
      exact absurd H (by simp)
    ·rw [if_neg c3] at H
     exact absurd H (by simp)
   ·rw [if_neg c2] at H
    have c2b0 : decide (x8_1 < (l0.length : Int)) = false := decide_eq_false c2
    clear c2
    obtain rfl := Option.some.inj H
    go_wp2
    go_ret
    exact ⟨by first | rfl | (simp; done) | (simp [*]; done), by repeat (first | exact Drawn0.refl _ | apply Drawn0.step)⟩

-- NOT PRINTED: function 96 (plane_New)

-- NOT PRINTED: function 76 (picture_New)

-- NOT PRINTED: function 95 (codec_may)

-- NOT PRINTED: function 75 (codec_opened)

end Go.Proofs.Ytbbebhdcfopmmaa.PCodecNames
end
section
namespace Go.Proofs.Ytbbebhdcfopmmaa.PCodecNames
open Go.RowKit Go.Proofs.YtbbebhdcfopmmaaW.PrintWords Go.Proofs.YtbbebhdcfopmmaaW.PrintLast Go.Proofs.YtbbebhdcfopmmaaW.PrintMore
attribute [local go_sem] max2_int min2_int max_two min_two max_three min_three max_four min_four   -- for this text's walks alone
set_option linter.unusedVariables false
set_option linter.unusedSimpArgs false

mutual
def codec_paste.l0 : Nat → Int → Int → Int → Int → Int → List Int → Int → Int → List Int → Option (List Int)
 | 0, _, _, _, _, _, _, _, _, _ => none
 | k + 1, x2, x3, x8, x184000, x184001, x184002, x185000, x185001, x185002 => if x8 < x185001 then (codec_paste.j1 k x2 x3 x8 (decide ((wrap64 (x3 + x8)) < x184001)) x184000 x184001 x184002 x185000 x185001 x185002) else (codec_paste.j1 k x2 x3 x8 false x184000 x184001 x184002 x185000 x185001 x185002)
def codec_paste.j1 : Nat → Int → Int → Int → Bool → Int → Int → List Int → Int → Int → List Int → Option (List Int)
 | 0, _, _, _, _, _, _, _, _, _, _ => none
 | k + 1, x2, x3, x8, x24, x184000, x184001, x184002, x185000, x185001, x185002 => if x24 = true then (codec_paste.l1 k x2 x3 x8 (mx 0 (wrap64 (-x2))) x184000 x184001 x184002 x185000 x185001 x185002) else (some x184002)
def codec_paste.l1 : Nat → Int → Int → Int → Int → Int → Int → List Int → Int → Int → List Int → Option (List Int)
 | 0, _, _, _, _, _, _, _, _, _, _ => none
 | k + 1, x2, x3, x8, x9, x184000, x184001, x184002, x185000, x185001, x185002 => if x9 < x185000 then (if (wrap64 (x2 + x9)) < x184000 then (if 0 ≤ (wrap64 ((wrap64 (x8 * x185000)) + x9)) then (if (wrap64 ((wrap64 (x8 * x185000)) + x9)) < (x185002.length : Int) then (if 0 ≤ (wrap64 ((wrap64 ((wrap64 ((wrap64 (x3 + x8)) * x184000)) + x2)) + x9)) then (if (wrap64 ((wrap64 ((wrap64 ((wrap64 (x3 + x8)) * x184000)) + x2)) + x9)) < (x184002.length : Int) then (codec_paste.l1 k x2 x3 x8 (wrap64 (x9 + 1)) x184000 x184001 (x184002.set ((wrap64 ((wrap64 ((wrap64 ((wrap64 (x3 + x8)) * x184000)) + x2)) + x9)) : Int).toNat (rd x185002 (wrap64 ((wrap64 (x8 * x185000)) + x9)))) x185000 x185001 x185002) else (none)) else (none)) else (none)) else (none)) else (codec_paste.l0 k x2 x3 (wrap64 (x8 + 1)) x184000 x184001 x184002 x185000 x185001 x185002)) else (codec_paste.l0 k x2 x3 (wrap64 (x8 + 1)) x184000 x184001 x184002 x185000 x185001 x185002)
end
def codec_paste.f (k : Nat) (a0_0 : Int) (a0_1 : Int) (l0_2 : List Int) (a1_0 : Int) (a1_1 : Int) (l1_2 : List Int) (a2 : Int) (a3 : Int) : Option (List Int) := codec_paste.l0 k a2 a3 (mx 0 (wrap64 (-a3))) a0_0 a0_1 l0_2 a1_0 a1_1 l1_2
def codec_paste.T7 : Bool × List (List Nat × List Nat) := (true, [([], []), ([0], [0]), ([], []), ([], []), ([2, 3], [2, 3]), ([], []), ([5], [5]), ([4, 6], [4, 6]), ([], []), ([7, 8], [7, 8]), ([], []), ([9, 10], [9, 10]), ([], []), ([12], [12]), ([], []), ([], []), ([15], [15]), ([14, 16], [14, 16]), ([], []), ([17, 18], [17, 18]), ([13, 19], [13, 19]), ([20], [20]), ([1, 11, 0, 1, 2, 3, 4, 5, 6, 7, 8, 9, 10, 11, 12, 13, 14, 15, 16, 17, 18, 19, 20, 21], [1, 11]), ([22, 21, 0, 1, 2, 3, 4, 5, 6, 7, 8, 9, 10, 11, 12, 13, 14, 15, 16, 17, 18, 19, 20, 21], [21, 22])])
def codec_paste.B7 : List Nat := [0, 1, 0, 0, 12, 0, 32, 124, 0, 508, 0, 2044, 0, 4096, 0, 0, 32768, 114688, 0, 507904, 1044480, 2093056, 4194303, 8388607]
theorem codec_paste.tab7 : rtab .any (opsOf Try.f78 7) = codec_paste.T7 := by kernel_rfl
theorem codec_paste.bits7 : waitsOk codec_paste.T7.2 codec_paste.B7 = true := by kernel_rfl
set_option maxHeartbeats 8000000 in
set_option maxRecDepth 100000 in
theorem codec_paste.calls (k : Nat) (a0_0 : Int) (a0_1 : Int) (P0_2_ : Nat → Prop) (u9000_ : Value) (l0_2 : List Int) (a1_0 : Int) (a1_1 : Int) (A1_2 : Option Addr) (c1_2 : Nat) (l1_2 : List Int) (a2 : Int) (a3 : Int) (r : List Int) (w0 w : World) (hB : Below w0.heap.size w0 w) (ho0_2 : Kd.R (Kd.int .u32) 24 w w0.heap.size P0_2_ u9000_ l0_2) (hr1_2 : ∀ W_, Kept w W_ (fun k_ => P0_2_ k_) → Kd.C (Kd.int .u32) W_ A1_2 l1_2.length l1_2) (hc1_2 : l1_2.length ≤ c1_2) (h : codec_paste.f k a0_0 a0_1 l0_2 a1_0 a1_1 l1_2 a2 a3 = some r) :
    Calls Try.prog 78 #[.agg #[.int .i64 a0_0, .int .i64 a0_1, u9000_], .agg #[.int .i64 a1_0, .int .i64 a1_1, .slice A1_2 l1_2.length c1_2], .int .i64 a2, .int .i64 a3] w fun e w' => e = .returned (.tuple #[]) ∧ Kd.R (Kd.int .u32) 24 w' w0.heap.size (fun k_ => (P0_2_ k_ ∨ w.heap.size ≤ k_)) u9000_ r ∧ Below w0.heap.size w0 w' ∧ Kept w w' (fun k_ => P0_2_ k_) := by
 have hu31 := Try.underlying31
 have HO0_2 := Aside0.mk (show Kd.R (Kd.int .u32) 24 w w0.heap.size (fun k_ => (P0_2_ k_ ∨ w.heap.size ≤ k_)) u9000_ l0_2 from Kd.R_mono ho0_2 (fun k_ hk => (.inl hk)))
 have HR1_2 := Aside0.mk hr1_2
 have HC1_2 := Aside0.mk hc1_2
 clear hr1_2 hc1_2
 have HK := Aside0.mk (Kept.refl w (fun k_ => P0_2_ k_))
 have HW0 := Aside0.mk hB.size
 have HB := Aside0.mk hB
 clear hB
 have H : (codec_paste.l0 k a2 a3 (mx 0 (wrap64 (-a3))) a0_0 a0_1 l0_2 a1_0 a1_1 l1_2) = some r := h
 clear h
 obtain ⟨ji5, hji5⟩ : ∃ j_ : Int, (mx 0 (wrap64 (-a3))) = j_ := ⟨_, rfl⟩
 replace H : (codec_paste.l0 k a2 a3 ji5 a0_0 a0_1 l0_2 a1_0 a1_1 l1_2) = some r := by first | (rw [hji5] at H; exact H) | (simp only [hji5] at H ⊢; exact H)
 (try (have hji5l : 0 ≤ ji5 := by (rw [← hji5]; unfold mx; (repeat' split) <;> omega)))
 (try (have hji5m : 0 ≤ ji5 := by omega))
 have hji5_ : (if 0 < (wrap64 (-a3)) then (wrap64 (-a3)) else 0) = ji5 := hji5
 have H' := Aside0.mk H
 clear H
 obtain ⟨Ao6, co6, eo6⟩ := Kd.R_slice HO0_2.out
 subst eo6
 go_enter Try.func78, Try.ntmps78
 go_wp2_with (first | ((with_reducible refine gate_dst (N := 4) rfl ?_); refine box_event ?hg (N := 4) ?hd (cs := #[.int .i64 a0_0, .int .i64 a0_1, .slice Ao6 l0_2.length co6]) (t := 31) ?hr ?_; (case hd => rfl); (case hg => rfl); (case hr => first | (go_simp; done) | (go_simp; rfl)); intro gb183 hg w7 hbox hb; have n0_ := Aside0.mk (Kd.R_below (by (with_reducible repeat (first | apply Kd.R_alloc | apply Kd.R_drewN | apply Kd.R_drew)); exact HO0_2.out) hb); have n1_ := Aside0.mk (Kept.below (S := (fun k_ => P0_2_ k_)) (by repeat (first | (with_reducible first | exact HK.out | apply Kept.alloc | apply Kept.drewN | apply Kept.drew) | exact HK.out)) hb); have n2_ := Aside0.mk (below_step (by repeat (first | (with_reducible first | exact HB.out | apply below_alloc | apply pw_below_drewN | apply below_drew1) | exact HB.out)) hb); have n3_ := Aside0.mk (hbox); have n4_ := Aside0.mk ((by rw [hg]; exact (by first | exact HK.out.1 | exact (show Kept w _ (fun k_ => P0_2_ k_) from by repeat (first | (with_reducible first | exact HK.out | apply Kept.alloc | apply Kept.drewN | apply Kept.drew) | exact HK.out)).1) : w.heap.size ≤ gb183)); have n5_ := Aside0.mk ((by rw [hg]; exact (below_size (by repeat (first | (with_reducible first | exact HB.out | apply below_alloc | apply pw_below_drewN | apply below_drew1) | exact HB.out))) : w0.heap.size ≤ gb183)); clear HO0_2; clear HK; clear HB; have HO0_2 := n0_; have HK := n1_; have HB := n2_; have BK183 := n3_; have GW183 := n4_; have GE183 := n5_; clear n0_ n1_ n2_ n3_ n4_ n5_; clear hb hbox hg) | ((with_reducible refine gate_dst (N := 5) rfl ?_); refine box_event ?hg (N := 5) ?hd (cs := #[.int .i64 a1_0, .int .i64 a1_1, .slice A1_2 l1_2.length c1_2]) (t := 31) ?hr ?_; (case hd => rfl); (case hg => rfl); (case hr => first | (go_simp; done) | (go_simp; rfl)); intro gb184 hg w8 hbox hb; have n0_ := Aside0.mk (Kd.R_below (by (with_reducible repeat (first | apply Kd.R_alloc | apply Kd.R_drewN | apply Kd.R_drew)); exact HO0_2.out) hb); have n1_ := Aside0.mk (blk_below (g := gb183) (o := .cells #[.int .i64 a0_0, .int .i64 a0_1, .slice Ao6 l0_2.length co6] 31 (0, 0)) (by (with_reducible repeat (first | refine blk_drewN ?_ _ | refine blk_drew ?_ | refine blk_alloc ?_ _)); exact BK183.out) hb); have n2_ := Aside0.mk (Kept.below (S := (fun k_ => P0_2_ k_)) (by repeat (first | (with_reducible first | exact HK.out | apply Kept.alloc | apply Kept.drewN | apply Kept.drew | refine Kept.setCell ?_ (.inr GW183.out) _) | exact HK.out)) hb); have n3_ := Aside0.mk (below_step (by repeat (first | (with_reducible first | exact HB.out | apply below_alloc | apply pw_below_drewN | apply below_drew1 | refine below_set ?_ GE183.out) | exact HB.out)) hb); have n4_ := Aside0.mk (hbox); have n5_ := Aside0.mk ((by rw [hg]; exact (by first | exact HK.out.1 | exact (show Kept w _ (fun k_ => P0_2_ k_) from by repeat (first | (with_reducible first | exact HK.out | apply Kept.alloc | apply Kept.drewN | apply Kept.drew | refine Kept.setCell ?_ (.inr GW183.out) _) | exact HK.out)).1) : w.heap.size ≤ gb184)); have n6_ := Aside0.mk ((by rw [hg]; exact (below_size (by repeat (first | (with_reducible first | exact HB.out | apply below_alloc | apply pw_below_drewN | apply below_drew1 | refine below_set ?_ GE183.out) | exact HB.out))) : w0.heap.size ≤ gb184)); have n7_ := Aside0.mk ((by rw [hg]; exact Nat.ne_of_lt (blk_lt (g := gb183) (o := .cells #[.int .i64 a0_0, .int .i64 a0_1, .slice Ao6 l0_2.length co6] 31 (0, 0)) (by (with_reducible repeat (first | refine blk_drewN ?_ _ | refine blk_drew ?_ | refine blk_alloc ?_ _)); exact BK183.out)) : gb183 ≠ gb184)); have n8_ := Aside0.mk ((by rw [hg]; exact Nat.ne_of_gt (blk_lt (g := gb183) (o := .cells #[.int .i64 a0_0, .int .i64 a0_1, .slice Ao6 l0_2.length co6] 31 (0, 0)) (by (with_reducible repeat (first | refine blk_drewN ?_ _ | refine blk_drew ?_ | refine blk_alloc ?_ _)); exact BK183.out)) : gb184 ≠ gb183)); clear HO0_2; clear BK183; clear HK; clear HB; have HO0_2 := n0_; have BK183 := n1_; have HK := n2_; have HB := n3_; have BK184 := n4_; have GW184 := n5_; have GE184 := n6_; have NB183_184 := n7_; have NB184_183 := n8_; clear n0_ n1_ n2_ n3_ n4_ n5_ n6_ n7_ n8_; clear hb hbox hg))
 go_loopg [8] k (fun kq v8 w' => ∃ (x8_1 : Int) (x184002_1 : List Int), v8 = .int .i64 x8_1 ∧ Aside0 (codec_paste.l0 kq a2 a3 x8_1 a0_0 a0_1 x184002_1 a1_0 a1_1 l1_2 = some r) ∧ Aside0 (kq ≤ k) ∧ Aside0 (Kd.R (Kd.int .u32) 24 w' w0.heap.size (fun k_ => (P0_2_ k_ ∨ w.heap.size ≤ k_)) (.slice Ao6 l0_2.length co6) x184002_1) ∧ Aside0 (w'.heap[gb183]? = some (.cells #[.int .i64 a0_0, .int .i64 a0_1, (.slice Ao6 l0_2.length co6)] 31 (0, 0))) ∧ Aside0 (w'.heap[gb184]? = some (.cells #[.int .i64 a1_0, .int .i64 a1_1, (.slice A1_2 l1_2.length c1_2)] 31 (0, 0))) ∧ Aside0 (Kept w w' (fun k_ => P0_2_ k_)) ∧ Aside0 (Below w0.heap.size w0 w'))
 case atStart => exact ⟨(ji5), (l0_2), (by first | rfl | (simp; done) | (simp only [← hji5] <;> (first | rfl | simp)) | (simp [*]; done)), H', ⟨Nat.le_refl _⟩, ⟨by (with_reducible repeat (first | apply Kd.R_alloc | apply Kd.R_drewN | apply Kd.R_drew)); exact HO0_2.out⟩, ⟨by (with_reducible repeat (first | refine blk_drewN ?_ _ | refine blk_drew ?_ | refine blk_alloc ?_ _)); exact BK183.out⟩, ⟨by (with_reducible repeat (first | refine blk_drewN ?_ _ | refine blk_drew ?_ | refine blk_alloc ?_ _)); exact BK184.out⟩, ⟨by repeat (first | (with_reducible first | exact HK.out | apply Kept.alloc | apply Kept.drewN | apply Kept.drew | refine Kept.setCell ?_ (.inr GW183.out) _ | refine Kept.setCell ?_ (.inr GW184.out) _) | exact HK.out)⟩, ⟨by repeat (first | (with_reducible first | exact HB.out | apply below_alloc | apply pw_below_drewN | apply below_drew1 | refine below_set ?_ GE183.out | refine below_set ?_ GE184.out) | exact HB.out)⟩⟩
 case round =>
  clear H'
  try clear c1
  try clear p2
  try clear p6
  try clear c7
  obtain ⟨x8_1, x184002_1, rfl, HA, HK1, HO_184002, BK183, BK184, HK, HB⟩ := hrel
  have hl184002_1 := (Kd.R_reads' HO_184002.out).1
  rw [hl184002_1] at HO_184002
  (try simp only [hl184002_1])
  (try simp only [hl184002_1] at BK183)
  (try simp only [hl184002_1] at BK184)
  cases gk with
  | zero => exact absurd HA.out (by simp [codec_paste.l0])
  | succ k1 =>
   have H := HA.out
   clear HA
   simp only [codec_paste.l0] at H
   have HC9 := Aside0.mk H
   clear H
   go_upto_region 2 with (fail)
   go_cut [24] (fun v24 wc => ∃ (kq : Nat) (x24_8 : Bool), v24 = .bool x24_8 ∧ Aside0 (codec_paste.j1 kq a2 a3 x8_1 x24_8 a0_0 a0_1 x184002_1 a1_0 a1_1 l1_2 = some r) ∧ Aside0 (kq ≤ k1) ∧ Aside0 (Kd.R (Kd.int .u32) 24 wc w0.heap.size (fun k_ => (P0_2_ k_ ∨ w.heap.size ≤ k_)) (.slice Ao6 x184002_1.length co6) x184002_1) ∧ Aside0 (wc.heap[gb183]? = some (.cells #[.int .i64 a0_0, .int .i64 a0_1, (.slice Ao6 x184002_1.length co6)] 31 (0, 0))) ∧ Aside0 (wc.heap[gb184]? = some (.cells #[.int .i64 a1_0, .int .i64 a1_1, (.slice A1_2 l1_2.length c1_2)] 31 (0, 0))) ∧ Aside0 (Kept w wc (fun k_ => P0_2_ k_)) ∧ Aside0 (Below w0.heap.size w0 wc))
   case first =>
    have H := HC9.out
    clear HC9
    by_cases c10 : x8_1 < a1_1
    ·rw [if_pos c10] at H
     have c10b0 : decide (x8_1 < a1_1) = true := decide_eq_true c10
     clear c10
     (first | rw [c10b0] | (simp only [i64_w, i32_w]; rw [c10b0]) | skip)
     have H' := Aside0.mk H
     clear H
     have hnb11 := NB184_183.out
     have hnc11 := NB183_184.out
     have hcz12_0 : wr.cell? ⟨gb184, 0, none⟩ = some (.int .i64 a1_0) := (blk_cell BK184.out 0).trans rfl
     have hcz12_1 : wr.cell? ⟨gb184, 1, none⟩ = some (.int .i64 a1_1) := (blk_cell BK184.out 1).trans rfl
     have hcz12_2 : wr.cell? ⟨gb184, 2, none⟩ = some (.slice A1_2 l1_2.length c1_2) := (blk_cell BK184.out 2).trans rfl
     have hfz12_0 := blk_frozen BK184.out 0
     have hfz12_1 := blk_frozen BK184.out 1
     have hfz12_2 := blk_frozen BK184.out 2
     have hcz13_0 : wr.cell? ⟨gb183, 0, none⟩ = some (.int .i64 a0_0) := (blk_cell BK183.out 0).trans rfl
     have hcz13_1 : wr.cell? ⟨gb183, 1, none⟩ = some (.int .i64 a0_1) := (blk_cell BK183.out 1).trans rfl
     have hcz13_2 : wr.cell? ⟨gb183, 2, none⟩ = some (.slice Ao6 x184002_1.length co6) := (blk_cell BK183.out 2).trans rfl
     have hfz13_0 := blk_frozen BK183.out 0
     have hfz13_1 := blk_frozen BK183.out 1
     have hfz13_2 := blk_frozen BK183.out 2
     go_wp2
     go_meet
     case rel => exact ⟨_, (decide ((wrap64 (a3 + x8_1)) < a0_1)), (by first | rfl | (simp; done) | (simp [*]; done)), H', ⟨by have := HK1.out; first | omega | exact Nat.le_refl _⟩, ⟨by (try simp only [hl184002_1]); (with_reducible repeat (first | apply Kd.R_alloc | apply Kd.R_drewN | apply Kd.R_drew)); exact HO_184002.out⟩, ⟨by (try simp only [hl184002_1]); (with_reducible repeat (first | refine blk_drewN ?_ _ | refine blk_drew ?_ | refine blk_alloc ?_ _)); exact BK183.out⟩, ⟨by (try simp only [hl184002_1]); (with_reducible repeat (first | refine blk_drewN ?_ _ | refine blk_drew ?_ | refine blk_alloc ?_ _)); exact BK184.out⟩, ⟨by repeat (first | (with_reducible first | exact HK.out | apply Kept.alloc | apply Kept.drewN | apply Kept.drew | refine Kept.setCell ?_ (.inr GW183.out) _ | refine Kept.setCell ?_ (.inr GW184.out) _) | exact HK.out)⟩, ⟨by repeat (first | (with_reducible first | exact HB.out | apply below_alloc | apply pw_below_drewN | apply below_drew1 | refine below_set ?_ GE183.out | refine below_set ?_ GE184.out) | exact HB.out)⟩⟩
    ·rw [if_neg c10] at H
     have c10b0 : decide (x8_1 < a1_1) = false := decide_eq_false c10
     clear c10
     (first | rw [c10b0] | (simp only [i64_w, i32_w]; rw [c10b0]) | skip)
     have H' := Aside0.mk H
     clear H
     have hnb14 := NB184_183.out
     have hnc14 := NB183_184.out
     have hcz15_0 : wr.cell? ⟨gb184, 0, none⟩ = some (.int .i64 a1_0) := (blk_cell BK184.out 0).trans rfl
     have hcz15_1 : wr.cell? ⟨gb184, 1, none⟩ = some (.int .i64 a1_1) := (blk_cell BK184.out 1).trans rfl
     have hcz15_2 : wr.cell? ⟨gb184, 2, none⟩ = some (.slice A1_2 l1_2.length c1_2) := (blk_cell BK184.out 2).trans rfl
     have hfz15_0 := blk_frozen BK184.out 0
     have hfz15_1 := blk_frozen BK184.out 1
     have hfz15_2 := blk_frozen BK184.out 2
     go_wp2
     go_meet
     case rel => exact ⟨_, (false), (by first | rfl | (simp; done) | (simp [*]; done)), H', ⟨by have := HK1.out; first | omega | exact Nat.le_refl _⟩, ⟨by (try simp only [hl184002_1]); (with_reducible repeat (first | apply Kd.R_alloc | apply Kd.R_drewN | apply Kd.R_drew)); exact HO_184002.out⟩, ⟨by (try simp only [hl184002_1]); (with_reducible repeat (first | refine blk_drewN ?_ _ | refine blk_drew ?_ | refine blk_alloc ?_ _)); exact BK183.out⟩, ⟨by (try simp only [hl184002_1]); (with_reducible repeat (first | refine blk_drewN ?_ _ | refine blk_drew ?_ | refine blk_alloc ?_ _)); exact BK184.out⟩, ⟨by repeat (first | (with_reducible first | exact HK.out | apply Kept.alloc | apply Kept.drewN | apply Kept.drew | refine Kept.setCell ?_ (.inr GW183.out) _ | refine Kept.setCell ?_ (.inr GW184.out) _) | exact HK.out)⟩, ⟨by repeat (first | (with_reducible first | exact HB.out | apply below_alloc | apply pw_below_drewN | apply below_drew1 | refine below_set ?_ GE183.out | refine below_set ?_ GE184.out) | exact HB.out)⟩⟩
   case rest =>
    clear HC9
    try clear c1
    try clear p2
    try clear p6
    try clear c7
    try clear c10
    try clear c10b0
    try clear c11
    try clear c14
    try clear hcz12_0
    try clear hcz12_1
    try clear hcz12_2
    try clear hcz13_0
    try clear hcz13_1
    try clear hcz13_2
    try clear hcz15_0
    try clear hcz15_1
    try clear hcz15_2
    try clear hfz12_0
    try clear hfz12_1
    try clear hfz12_2
    try clear hfz13_0
    try clear hfz13_1
    try clear hfz13_2
    try clear hfz15_0
    try clear hfz15_1
    try clear hfz15_2
    try clear p2
    try clear p6
    obtain ⟨kq, x24_8, rfl, HA, HJ8, HO_184002, BK183, BK184, HK, HB⟩ := hcut
    cases kq with
    | zero => exact absurd HA.out (by simp [codec_paste.j1])
    | succ kj8 =>
     have H := HA.out
     clear HA
     simp only [codec_paste.j1] at H
     by_cases c16 : x24_8 = true
     ·subst c16
      have H1 : (codec_paste.l1 kj8 a2 a3 x8_1 (mx 0 (wrap64 (-a2))) a0_0 a0_1 x184002_1 a1_0 a1_1 l1_2) = some r := by rw [if_pos rfl] at H; exact H
      clear H
      have H := H1
      clear H1
      obtain ⟨ji17, hji17⟩ : ∃ j_ : Int, (mx 0 (wrap64 (-a2))) = j_ := ⟨_, rfl⟩
      replace H : (codec_paste.l1 kj8 a2 a3 x8_1 ji17 a0_0 a0_1 x184002_1 a1_0 a1_1 l1_2) = some r := by first | (rw [hji17] at H; exact H) | (simp only [hji17] at H ⊢; exact H)
      have hji17_ : (if 0 < (wrap64 (-a2)) then (wrap64 (-a2)) else 0) = ji17 := hji17
      have H' := Aside0.mk H
      clear H
      go_wp2
      go_loopg [9] kj8 (fun kq v9 w' => ∃ (x9_3 : Int) (x184002_3 : List Int), v9 = .int .i64 x9_3 ∧ Aside0 (codec_paste.l1 kq a2 a3 x8_1 x9_3 a0_0 a0_1 x184002_3 a1_0 a1_1 l1_2 = some r) ∧ Aside0 (kq ≤ kj8) ∧ Aside0 (Kd.R (Kd.int .u32) 24 w' w0.heap.size (fun k_ => (P0_2_ k_ ∨ w.heap.size ≤ k_)) (.slice Ao6 x184002_1.length co6) x184002_3) ∧ Aside0 (w'.heap[gb183]? = some (.cells #[.int .i64 a0_0, .int .i64 a0_1, (.slice Ao6 x184002_1.length co6)] 31 (0, 0))) ∧ Aside0 (w'.heap[gb184]? = some (.cells #[.int .i64 a1_0, .int .i64 a1_1, (.slice A1_2 l1_2.length c1_2)] 31 (0, 0))) ∧ Aside0 (Kept w w' (fun k_ => P0_2_ k_)) ∧ Aside0 (Below w0.heap.size w0 w'))
      case atStart => exact ⟨(ji17), (x184002_1), (by first | rfl | (simp; done) | (simp only [← hji17] <;> (first | rfl | simp)) | (simp [*]; done)), H', ⟨Nat.le_refl _⟩, ⟨by (try simp only [hl184002_1]); (with_reducible repeat (first | apply Kd.R_alloc | apply Kd.R_drewN | apply Kd.R_drew)); exact HO_184002.out⟩, ⟨by (try simp only [hl184002_1]); (with_reducible repeat (first | refine blk_drewN ?_ _ | refine blk_drew ?_ | refine blk_alloc ?_ _)); exact BK183.out⟩, ⟨by (try simp only [hl184002_1]); (with_reducible repeat (first | refine blk_drewN ?_ _ | refine blk_drew ?_ | refine blk_alloc ?_ _)); exact BK184.out⟩, ⟨by repeat (first | (with_reducible first | exact HK.out | apply Kept.alloc | apply Kept.drewN | apply Kept.drew | refine Kept.setCell ?_ (.inr GW183.out) _ | refine Kept.setCell ?_ (.inr GW184.out) _) | exact HK.out)⟩, ⟨by repeat (first | (with_reducible first | exact HB.out | apply below_alloc | apply pw_below_drewN | apply below_drew1 | refine below_set ?_ GE183.out | refine below_set ?_ GE184.out) | exact HB.out)⟩⟩
      case round =>
       clear H'
       try clear c1
       try clear p2
       try clear p6
       try clear c7
       try clear c10
       try clear c10b0
       try clear c11
       try clear c14
       try clear c16
       try clear hcz12_0
       try clear hcz12_1
       try clear hcz12_2
       try clear hcz13_0
       try clear hcz13_1
       try clear hcz13_2
       try clear hcz15_0
       try clear hcz15_1
       try clear hcz15_2
       try clear hfz12_0
       try clear hfz12_1
       try clear hfz12_2
       try clear hfz13_0
       try clear hfz13_1
       try clear hfz13_2
       try clear hfz15_0
       try clear hfz15_1
       try clear hfz15_2
       try clear p2
       try clear p6
       obtain ⟨x9_3, x184002_3, rfl, HA, HK3, HO_184002, BK183, BK184, HK, HB⟩ := hrel
       have hl184002_3 := (Kd.R_reads' HO_184002.out).1
       rw [hl184002_3] at HO_184002
       (try simp only [hl184002_3])
       (try simp only [hl184002_3] at BK183)
       (try simp only [hl184002_3] at BK184)
       cases gk with
       | zero => exact absurd HA.out (by simp [codec_paste.l1])
       | succ k3 =>
        have H := HA.out
        clear HA
        simp only [codec_paste.l1] at H
        by_cases c18 : x9_3 < a1_0
        ·rw [if_pos c18] at H
         have c18b0 : decide (x9_3 < a1_0) = true := decide_eq_true c18
         clear c18
         by_cases c19 : (wrap64 (a2 + x9_3)) < a0_0
         ·rw [if_pos c19] at H
          have c19b0 : decide ((wrap64 (a2 + x9_3)) < a0_0) = true := decide_eq_true c19
          clear c19
          obtain ⟨ji20, hji20⟩ : ∃ j_ : Int, (wrap64 ((wrap64 (x8_1 * a1_0)) + x9_3)) = j_ := ⟨_, rfl⟩
          replace H : (if 0 ≤ (ji20) then (if (ji20) < (l1_2.length : Int) then (if 0 ≤ (wrap64 ((wrap64 ((wrap64 ((wrap64 (a3 + x8_1)) * a0_0)) + a2)) + x9_3)) then (if (wrap64 ((wrap64 ((wrap64 ((wrap64 (a3 + x8_1)) * a0_0)) + a2)) + x9_3)) < (x184002_3.length : Int) then (codec_paste.l1 k3 a2 a3 x8_1 (wrap64 (x9_3 + 1)) a0_0 a0_1 (x184002_3.set ((wrap64 ((wrap64 ((wrap64 ((wrap64 (a3 + x8_1)) * a0_0)) + a2)) + x9_3)) : Int).toNat (rd l1_2 (ji20))) a1_0 a1_1 l1_2) else (none)) else (none)) else (none)) else (none)) = some r := by first | (rw [hji20] at H; exact H) | (simp only [hji20] at H ⊢; exact H)
          have hji20w : (IntKind.i64.wrap ((wrap64 (x8_1 * a1_0)) + x9_3)) = ji20 := (i64_w _).trans hji20
          by_cases c21 : 0 ≤ (ji20)
          ·rw [if_pos c21] at H
           have c21b0 : decide (0 ≤ (ji20)) = true := decide_eq_true c21
           clear c21
           by_cases c22 : (ji20) < (l1_2.length : Int)
           ·rw [if_pos c22] at H
            have c22b0 : decide ((ji20) < (l1_2.length : Int)) = true := decide_eq_true c22
            clear c22
            obtain ⟨ji23, hji23⟩ : ∃ j_ : Int, (wrap64 ((wrap64 ((wrap64 ((wrap64 (a3 + x8_1)) * a0_0)) + a2)) + x9_3)) = j_ := ⟨_, rfl⟩
            replace H : (if 0 ≤ (ji23) then (if (ji23) < (x184002_3.length : Int) then (codec_paste.l1 k3 a2 a3 x8_1 (wrap64 (x9_3 + 1)) a0_0 a0_1 (x184002_3.set ((ji23) : Int).toNat (rd l1_2 (ji20))) a1_0 a1_1 l1_2) else (none)) else (none)) = some r := by first | (rw [hji23] at H; exact H) | (simp only [hji23] at H ⊢; exact H)
            have hji23w : (IntKind.i64.wrap ((wrap64 ((wrap64 ((wrap64 (a3 + x8_1)) * a0_0)) + a2)) + x9_3)) = ji23 := (i64_w _).trans hji23
            by_cases c24 : 0 ≤ (ji23)
            ·rw [if_pos c24] at H
             have c24b0 : decide (0 ≤ (ji23)) = true := decide_eq_true c24
             clear c24
             by_cases c25 : (ji23) < (x184002_3.length : Int)
             ·rw [if_pos c25] at H
              have c25b0 : decide ((ji23) < (x184002_3.length : Int)) = true := decide_eq_true c25
              clear c25
              obtain ⟨y186, hy186⟩ : ∃ y_ : List Int, y_ = (x184002_3.set ((ji23) : Int).toNat (rd l1_2 (ji20))) := ⟨_, rfl⟩
              replace H : (codec_paste.l1 k3 a2 a3 x8_1 (wrap64 (x9_3 + 1)) a0_0 a0_1 y186 a1_0 a1_1 l1_2) = some r := by first | (rw [hy186]; with_reducible exact H) | (have H2_ := (Option.bind_some _ _).symm.trans H; rw [hy186]; with_reducible exact H2_) | (have H2_ := (Option.bind_some _ _).symm.trans H; with_reducible exact H2_) | with_reducible exact H | (rw [hy186]; exact H) | exact H
              have Ny186 := Aside0.mk hy186
              clear hy186
              have H' := Aside0.mk H
              clear H
              have hnb27 := NB184_183.out
              have hnc27 := NB183_184.out
              have hcz28_0 : wr.cell? ⟨gb184, 0, none⟩ = some (.int .i64 a1_0) := (blk_cell BK184.out 0).trans rfl
              have hcz28_1 : wr.cell? ⟨gb184, 1, none⟩ = some (.int .i64 a1_1) := (blk_cell BK184.out 1).trans rfl
              have hcz28_2 : wr.cell? ⟨gb184, 2, none⟩ = some (.slice A1_2 l1_2.length c1_2) := (blk_cell BK184.out 2).trans rfl
              have hfz28_0 := blk_frozen BK184.out 0
              have hfz28_1 := blk_frozen BK184.out 1
              have hfz28_2 := blk_frozen BK184.out 2
              have hcz29_0 : wr.cell? ⟨gb183, 0, none⟩ = some (.int .i64 a0_0) := (blk_cell BK183.out 0).trans rfl
              have hcz29_1 : wr.cell? ⟨gb183, 1, none⟩ = some (.int .i64 a0_1) := (blk_cell BK183.out 1).trans rfl
              have hcz29_2 : wr.cell? ⟨gb183, 2, none⟩ = some (.slice Ao6 x184002_3.length co6) := (blk_cell BK183.out 2).trans rfl
              have hfz29_0 := blk_frozen BK183.out 0
              have hfz29_1 := blk_frozen BK183.out 1
              have hfz29_2 := blk_frozen BK183.out 2
              try go_wp2
              have n0_ := Aside0.mk (Kd.R_drew HO_184002.out)
              have n1_ := Aside0.mk (blk_drew BK183.out)
              have n2_ := Aside0.mk (blk_drew BK184.out)
              have n3_ := Aside0.mk (Kept.drew HK.out)
              have n4_ := Aside0.mk (below_drew1 HB.out)
              clear HO_184002
              clear BK183
              clear BK184
              clear HK
              clear HB
              have HO_184002 := n0_
              have BK183 := n1_
              have BK184 := n2_
              have HK := n3_
              have HB := n4_
              clear n0_ n1_ n2_ n3_ n4_
              have p185 : 0 ≤ ((ji20) : Int) := of_decide_eq_true (by first | (with_reducible assumption) | assumption)
              have q185 : (ji20) < (l1_2.length : Int) := of_decide_eq_true (by first | (with_reducible assumption) | assumption)
              obtain ⟨ad185, e185, hx185_0⟩ := Kd.at_int (Kd.C_kept_now HR1_2.out HK.out) (ji20) p185 q185
              have hw185_0 := hx185_0
              cases e185
              replace p185 := eq_true p185
              replace q185 := eq_true q185
              have p26 : 0 ≤ ((ji23) : Int) := of_decide_eq_true (by first | (with_reducible assumption) | assumption)
              have q26 : ((ji23) : Int) < ((x184002_3.length : Int) : Int) := of_decide_eq_true (by first | (with_reducible assumption) | assumption)
              obtain ⟨go26, co26, eo26, gb26, gl26, cl26, HG26⟩ := Kd.R_form HO_184002.out (by omega)
              (first | cases eo26 | (injection eo26 with ea_ en_ ec_; (first | subst ea_ | (injection ea_ with ea_; subst ea_)); subst ec_; clear en_))
              have GB26 := Aside0.mk gb26
              have GG26 := Aside0.mk HG26
              clear gb26 gl26 HG26
              have HMgo26 := Aside0.mk (show (P0_2_ go26 ∨ w.heap.size ≤ go26) from (HO_184002.out.1 _ rfl))
              obtain ⟨hx26_0, hf26_0⟩ := Kd.R_celln 0 HO_184002.out ((ji23) : Int) p26 q26
              replace p26 := eq_true p26
              replace q26 := eq_true q26
              have HP31 := Kd.R_putn HO_184002.out ((ji23) : Int) (rd l1_2 (ji20))
              rw [← Ny186.out] at HP31
              have HQ31 := Aside0.mk HP31
              clear HP31
              refine start_ (n := 24) (S := fun w' => w'.cell? ⟨gb183, 0, none⟩ = some (.int .i64 a0_0) ∧ w'.cell? ⟨gb183, 1, none⟩ = some (.int .i64 a0_1) ∧ w'.cell? ⟨gb183, 2, none⟩ = some (.slice (some ⟨go26, 0, none⟩) x184002_3.length co6) ∧ w'.cell? ⟨gb184, 0, none⟩ = some (.int .i64 a1_0) ∧ w'.cell? ⟨gb184, 1, none⟩ = some (.int .i64 a1_1) ∧ w'.cell? ⟨gb184, 2, none⟩ = some (.slice (some ad185) l1_2.length c1_2) ∧ w'.cell? (ad185.add ((ji20)).toNat) = some (.int .u32 (rd l1_2 (ji20)))) (ds := [23]) #[ff_,ff_,ff_,ff_,ff_,ff_,ff_,ff_,ff_,ff_,ff_,ff_,ff_,ff_,ff_,ff_,ff_,ff_,ff_,ff_,ff_,ff_,ff_,ff_] (by kernel_rfl) rfl rfl ⟨(blk_cell BK183.out 0).trans rfl, (blk_cell BK183.out 1).trans rfl, (blk_cell BK183.out 2).trans rfl, (blk_cell BK184.out 0).trans rfl, (blk_cell BK184.out 1).trans rfl, (blk_cell BK184.out 2).trans rfl, (Kd.foot_int (HR1_2.out _ (by repeat (first | exact HK.out | apply Kept.alloc | apply Kept.drewN | apply Kept.drew | refine Kept.setCell ?_ HMgo26.out _))) (ji20) (of_eq_true p185) (of_eq_true q185))⟩ (fun hHeld => ?_); refine with_tabW codec_paste.tab7 codec_paste.bits7 (fun HT_ HW_ => ?_)
              generalize wr.drew = w30 at HO_184002 BK183 BK184 HK HB GG26 HQ31 hf26_0 hx185_0 hx26_0 hHeld ⊢
              refine pure_ (i := 0) (N := some 44) (v := ?_) (a' := ?_) #[tt_,ff_,ff_,ff_,ff_,ff_,ff_,ff_,ff_,ff_,ff_,ff_,ff_,ff_,ff_,ff_,ff_,ff_,ff_,ff_,ff_,ff_,ff_,ff_] rfl rfl (any_of HT_.out (by kernel_rfl)) (fun _ _ _ h => h) (Or.inl ⟨by rfl, ?_⟩) ?_ ?_
              rotate_left
              ·intro w'
               go_simp
               with_reducible rfl
              rotate_left
              ·simp only [Act.put, List.setIfInBounds_toArray, List.set_cons_zero, List.set_cons_succ, i64_w, i32_w]
               rfl
              refine pure_ (i := 2) (N := some 46) (v := ?_) (a' := ?_) #[tt_,ff_,tt_,ff_,ff_,ff_,ff_,ff_,ff_,ff_,ff_,ff_,ff_,ff_,ff_,ff_,ff_,ff_,ff_,ff_,ff_,ff_,ff_,ff_] rfl rfl (any_of HT_.out (by kernel_rfl)) (fun _ _ _ h => h) (Or.inl ⟨by rfl, ?_⟩) ?_ ?_
              rotate_left
              ·intro w'
               go_simp
               with_reducible rfl
              rotate_left
              ·simp only [Act.put, List.setIfInBounds_toArray, List.set_cons_zero, List.set_cons_succ, i64_w, i32_w]
               rfl
              refine pure_ (i := 3) (N := some 47) (v := ?_) (a' := ?_) #[tt_,ff_,tt_,tt_,ff_,ff_,ff_,ff_,ff_,ff_,ff_,ff_,ff_,ff_,ff_,ff_,ff_,ff_,ff_,ff_,ff_,ff_,ff_,ff_] rfl rfl (any_of HT_.out (by kernel_rfl)) (fun _ _ _ h => h) (Or.inl ⟨by rfl, ?_⟩) ?_ ?_
              rotate_left
              ·intro w'
               go_simp
               with_reducible rfl
              rotate_left
              ·simp only [Act.put, List.setIfInBounds_toArray, List.set_cons_zero, List.set_cons_succ, i64_w, i32_w]
               rfl
              refine pure_ (i := 4) (N := some 48) (v := ?_) (a' := ?_) #[tt_,ff_,tt_,tt_,tt_,ff_,ff_,ff_,ff_,ff_,ff_,ff_,ff_,ff_,ff_,ff_,ff_,ff_,ff_,ff_,ff_,ff_,ff_,ff_] rfl rfl (any_of HT_.out (by kernel_rfl)) (fun _ _ _ h => h) (Or.inl ⟨by rfl, ?_⟩) ?_ ?_
              rotate_left
              ·intro w'
               go_simp
               with_reducible rfl
              rotate_left
              ·simp only [Act.put, List.setIfInBounds_toArray, List.set_cons_zero, List.set_cons_succ, i64_w, i32_w]
               rfl
              refine pure_ (i := 5) (N := some 49) (v := ?_) (a' := ?_) #[tt_,ff_,tt_,tt_,tt_,tt_,ff_,ff_,ff_,ff_,ff_,ff_,ff_,ff_,ff_,ff_,ff_,ff_,ff_,ff_,ff_,ff_,ff_,ff_] rfl rfl (any_of HT_.out (by kernel_rfl)) (fun _ _ _ h => h) (Or.inl ⟨by rfl, ?_⟩) ?_ ?_
              rotate_left
              ·intro w'
               go_simp
               with_reducible rfl
              rotate_left
              ·simp only [Act.put, List.setIfInBounds_toArray, List.set_cons_zero, List.set_cons_succ, i64_w, i32_w]
               rfl
              refine pure_ (i := 8) (N := some 52) (v := ?_) (a' := ?_) #[tt_,ff_,tt_,tt_,tt_,tt_,ff_,ff_,tt_,ff_,ff_,ff_,ff_,ff_,ff_,ff_,ff_,ff_,ff_,ff_,ff_,ff_,ff_,ff_] rfl rfl (any_of HT_.out (by kernel_rfl)) (fun _ _ _ h => h) (Or.inl ⟨by rfl, ?_⟩) ?_ ?_
              rotate_left
              ·intro w'
               go_simp
               with_reducible rfl
              rotate_left
              ·simp only [Act.put, List.setIfInBounds_toArray, List.set_cons_zero, List.set_cons_succ, i64_w, i32_w]
               rfl
              refine pure_ (i := 10) (N := some 54) (v := ?_) (a' := ?_) #[tt_,ff_,tt_,tt_,tt_,tt_,ff_,ff_,tt_,ff_,tt_,ff_,ff_,ff_,ff_,ff_,ff_,ff_,ff_,ff_,ff_,ff_,ff_,ff_] rfl rfl (any_of HT_.out (by kernel_rfl)) (fun _ _ _ h => h) (Or.inl ⟨by rfl, ?_⟩) ?_ ?_
              rotate_left
              ·intro w'
               go_simp
               with_reducible rfl
              rotate_left
              ·simp only [Act.put, List.setIfInBounds_toArray, List.set_cons_zero, List.set_cons_succ, i64_w, i32_w]
               rfl
              refine pure_ (i := 12) (N := some 56) (v := ?_) (a' := ?_) #[tt_,ff_,tt_,tt_,tt_,tt_,ff_,ff_,tt_,ff_,tt_,ff_,tt_,ff_,ff_,ff_,ff_,ff_,ff_,ff_,ff_,ff_,ff_,ff_] rfl rfl (any_of HT_.out (by kernel_rfl)) (fun _ _ _ h => h) (Or.inl ⟨by rfl, ?_⟩) ?_ ?_
              rotate_left
              ·intro w'
               go_simp
               with_reducible rfl
              rotate_left
              ·simp only [Act.put, List.setIfInBounds_toArray, List.set_cons_zero, List.set_cons_succ, i64_w, i32_w]
               rfl
              refine pure_ (i := 14) (N := some 58) (v := ?_) (a' := ?_) #[tt_,ff_,tt_,tt_,tt_,tt_,ff_,ff_,tt_,ff_,tt_,ff_,tt_,ff_,tt_,ff_,ff_,ff_,ff_,ff_,ff_,ff_,ff_,ff_] rfl rfl (any_of HT_.out (by kernel_rfl)) (fun _ _ _ h => h) (Or.inl ⟨by rfl, ?_⟩) ?_ ?_
              rotate_left
              ·intro w'
               go_simp
               with_reducible rfl
              rotate_left
              ·simp only [Act.put, List.setIfInBounds_toArray, List.set_cons_zero, List.set_cons_succ, i64_w, i32_w]
               rfl
              refine pure_ (i := 15) (N := some 59) (v := ?_) (a' := ?_) #[tt_,ff_,tt_,tt_,tt_,tt_,ff_,ff_,tt_,ff_,tt_,ff_,tt_,ff_,tt_,tt_,ff_,ff_,ff_,ff_,ff_,ff_,ff_,ff_] rfl rfl (any_of HT_.out (by kernel_rfl)) (fun _ _ _ h => h) (Or.inl ⟨by rfl, ?_⟩) ?_ ?_
              rotate_left
              ·intro w'
               go_simp
               with_reducible rfl
              rotate_left
              ·simp only [Act.put, List.setIfInBounds_toArray, List.set_cons_zero, List.set_cons_succ, i64_w, i32_w]
               rfl
              refine pure_ (i := 18) (N := some 62) (v := ?_) (a' := ?_) #[tt_,ff_,tt_,tt_,tt_,tt_,ff_,ff_,tt_,ff_,tt_,ff_,tt_,ff_,tt_,tt_,ff_,ff_,tt_,ff_,ff_,ff_,ff_,ff_] rfl rfl (any_of HT_.out (by kernel_rfl)) (fun _ _ _ h => h) (Or.inl ⟨by rfl, ?_⟩) ?_ ?_
              rotate_left
              ·intro w'
               go_simp
               with_reducible rfl
              rotate_left
              ·simp only [Act.put, List.setIfInBounds_toArray, List.set_cons_zero, List.set_cons_succ, i64_w, i32_w]
               rfl
              refine take_ (i := 1) (N := some 45) (v := ?_) (a' := ?_) #[tt_,tt_,tt_,tt_,tt_,tt_,ff_,ff_,tt_,ff_,tt_,ff_,tt_,ff_,tt_,tt_,ff_,ff_,tt_,ff_,ff_,ff_,ff_,ff_] rfl rfl (take_ofW HT_.out HW_.out (by kernel_rfl)) (fun _ _ _ h => h) (Or.inl ⟨by rfl, ?_⟩) hHeld ?_ ?_
              rotate_left
              ·rintro w' ⟨s0, s1, s2, s3, s4, s5, s6⟩
               go_simp
               with_reducible rfl
              rotate_left
              ·simp only [Act.put, List.setIfInBounds_toArray, List.set_cons_zero, List.set_cons_succ, i64_w, i32_w]
               rfl
              refine take_ (i := 6) (N := some 50) (v := ?_) (a' := ?_) #[tt_,tt_,tt_,tt_,tt_,tt_,tt_,ff_,tt_,ff_,tt_,ff_,tt_,ff_,tt_,tt_,ff_,ff_,tt_,ff_,ff_,ff_,ff_,ff_] rfl rfl (take_ofW HT_.out HW_.out (by kernel_rfl)) (fun _ _ _ h => h) (Or.inl ⟨by rfl, ?_⟩) hHeld ?_ ?_
              rotate_left
              ·rintro w' ⟨s0, s1, s2, s3, s4, s5, s6⟩
               go_simp
               with_reducible rfl
              rotate_left
              ·simp only [Act.put, List.setIfInBounds_toArray, List.set_cons_zero, List.set_cons_succ, i64_w, i32_w]
               rfl
              refine pure_ (i := 7) (N := some 51) (v := ?_) (a' := ?_) #[tt_,tt_,tt_,tt_,tt_,tt_,tt_,tt_,tt_,ff_,tt_,ff_,tt_,ff_,tt_,tt_,ff_,ff_,tt_,ff_,ff_,ff_,ff_,ff_] rfl rfl (any_of HT_.out (by kernel_rfl)) (fun _ _ _ h => h) (Or.inl ⟨by rfl, ?_⟩) ?_ ?_
              rotate_left
              ·intro w'
               go_simp
               with_reducible rfl
              rotate_left
              ·simp only [Act.put, List.setIfInBounds_toArray, List.set_cons_zero, List.set_cons_succ, i64_w, i32_w]
               rfl
              refine pure_ (i := 9) (N := some 53) (v := ?_) (a' := ?_) #[tt_,tt_,tt_,tt_,tt_,tt_,tt_,tt_,tt_,tt_,tt_,ff_,tt_,ff_,tt_,tt_,ff_,ff_,tt_,ff_,ff_,ff_,ff_,ff_] rfl rfl (any_of HT_.out (by kernel_rfl)) (fun _ _ _ h => h) (Or.inl ⟨by rfl, ?_⟩) ?_ ?_
              rotate_left
              ·intro w'
               go_simp
               with_reducible rfl
              rotate_left
              ·simp only [Act.put, List.setIfInBounds_toArray, List.set_cons_zero, List.set_cons_succ, i64_w, i32_w]
               rfl
              refine pure_ (i := 11) (N := some 55) (v := ?_) (a' := ?_) #[tt_,tt_,tt_,tt_,tt_,tt_,tt_,tt_,tt_,tt_,tt_,tt_,tt_,ff_,tt_,tt_,ff_,ff_,tt_,ff_,ff_,ff_,ff_,ff_] rfl rfl (any_of HT_.out (by kernel_rfl)) (fun _ _ _ h => h) (Or.inl ⟨by rfl, ?_⟩) ?_ ?_
              rotate_left
              ·intro w'
               go_simp
               with_reducible rfl
              rotate_left
              ·simp only [Act.put, List.setIfInBounds_toArray, List.set_cons_zero, List.set_cons_succ, i64_w, i32_w]
               rfl
              refine take_ (i := 13) (N := some 57) (v := ?_) (a' := ?_) #[tt_,tt_,tt_,tt_,tt_,tt_,tt_,tt_,tt_,tt_,tt_,tt_,tt_,tt_,tt_,tt_,ff_,ff_,tt_,ff_,ff_,ff_,ff_,ff_] rfl rfl (take_ofW HT_.out HW_.out (by kernel_rfl)) (fun _ _ _ h => h) (Or.inl ⟨by rfl, ?_⟩) hHeld ?_ ?_
              rotate_left
              ·rintro w' ⟨s0, s1, s2, s3, s4, s5, s6⟩
               go_simp
               with_reducible rfl
              rotate_left
              ·simp only [Act.put, List.setIfInBounds_toArray, List.set_cons_zero, List.set_cons_succ, i64_w, i32_w]
               rfl
              refine take_ (i := 16) (N := some 60) (v := ?_) (a' := ?_) #[tt_,tt_,tt_,tt_,tt_,tt_,tt_,tt_,tt_,tt_,tt_,tt_,tt_,tt_,tt_,tt_,tt_,ff_,tt_,ff_,ff_,ff_,ff_,ff_] rfl rfl (take_ofW HT_.out HW_.out (by kernel_rfl)) (fun _ _ _ h => h) (Or.inl ⟨by rfl, ?_⟩) hHeld ?_ ?_
              rotate_left
              ·rintro w' ⟨s0, s1, s2, s3, s4, s5, s6⟩
               go_simp
               with_reducible rfl
              rotate_left
              ·simp only [Act.put, List.setIfInBounds_toArray, List.set_cons_zero, List.set_cons_succ, i64_w, i32_w]
               rfl
              refine pure_ (i := 17) (N := some 61) (v := ?_) (a' := ?_) #[tt_,tt_,tt_,tt_,tt_,tt_,tt_,tt_,tt_,tt_,tt_,tt_,tt_,tt_,tt_,tt_,tt_,tt_,tt_,ff_,ff_,ff_,ff_,ff_] rfl rfl (any_of HT_.out (by kernel_rfl)) (fun _ _ _ h => h) (Or.inl ⟨by rfl, ?_⟩) ?_ ?_
              rotate_left
              ·intro w'
               go_simp
               with_reducible rfl
              rotate_left
              ·simp only [Act.put, List.setIfInBounds_toArray, List.set_cons_zero, List.set_cons_succ, i64_w, i32_w]
               rfl
              refine pure_ (i := 19) (N := some 63) (v := ?_) (a' := ?_) #[tt_,tt_,tt_,tt_,tt_,tt_,tt_,tt_,tt_,tt_,tt_,tt_,tt_,tt_,tt_,tt_,tt_,tt_,tt_,tt_,ff_,ff_,ff_,ff_] rfl rfl (any_of HT_.out (by kernel_rfl)) (fun _ _ _ h => h) (Or.inl ⟨by rfl, ?_⟩) ?_ ?_
              rotate_left
              ·intro w'
               go_simp
               with_reducible rfl
              rotate_left
              ·simp only [Act.put, List.setIfInBounds_toArray, List.set_cons_zero, List.set_cons_succ, i64_w, i32_w]
               rfl
              refine pure_ (i := 20) (N := some 64) (v := ?_) (a' := ?_) #[tt_,tt_,tt_,tt_,tt_,tt_,tt_,tt_,tt_,tt_,tt_,tt_,tt_,tt_,tt_,tt_,tt_,tt_,tt_,tt_,tt_,ff_,ff_,ff_] rfl rfl (any_of HT_.out (by kernel_rfl)) (fun _ _ _ h => h) (Or.inl ⟨by rfl, ?_⟩) ?_ ?_
              rotate_left
              ·intro w'
               go_simp
               with_reducible rfl
              rotate_left
              ·simp only [Act.put, List.setIfInBounds_toArray, List.set_cons_zero, List.set_cons_succ, i64_w, i32_w]
               rfl
              refine take_ (i := 21) (N := some 65) (v := ?_) (a' := ?_) #[tt_,tt_,tt_,tt_,tt_,tt_,tt_,tt_,tt_,tt_,tt_,tt_,tt_,tt_,tt_,tt_,tt_,tt_,tt_,tt_,tt_,tt_,ff_,ff_] rfl rfl (take_ofW HT_.out HW_.out (by kernel_rfl)) (fun _ _ _ h => h) (Or.inl ⟨by rfl, ?_⟩) hHeld ?_ ?_
              rotate_left
              ·rintro w' ⟨s0, s1, s2, s3, s4, s5, s6⟩
               go_simp
               with_reducible rfl
              rotate_left
              ·simp only [Act.put, List.setIfInBounds_toArray, List.set_cons_zero, List.set_cons_succ, i64_w, i32_w]
               rfl
              refine pure_ (i := 22) (N := some 66) (v := ?_) (a' := ?_) #[tt_,tt_,tt_,tt_,tt_,tt_,tt_,tt_,tt_,tt_,tt_,tt_,tt_,tt_,tt_,tt_,tt_,tt_,tt_,tt_,tt_,tt_,tt_,ff_] rfl rfl (any_of HT_.out (by kernel_rfl)) (fun _ _ _ h => h) (Or.inl ⟨by rfl, ?_⟩) ?_ ?_
              rotate_left
              ·intro w'
               go_simp
               with_reducible rfl
              rotate_left
              ·simp only [Act.put, List.setIfInBounds_toArray, List.set_cons_zero, List.set_cons_succ, i64_w, i32_w]
               rfl
              refine last_ (i := 23) (N := none) #[tt_,tt_,tt_,tt_,tt_,tt_,tt_,tt_,tt_,tt_,tt_,tt_,tt_,tt_,tt_,tt_,tt_,tt_,tt_,tt_,tt_,tt_,tt_,tt_] rfl rfl (one_of HT_.out (by kernel_rfl)) (by decide) (fun K hK => ?_)
              refine skip_ (w1 := ?_) (by rfl) rfl ?_ ?_
              rotate_left
              ·go_simp
               rfl
              refine hK.out _ _ ?_
              clear hK K
              refine done_ (done_of HT_.out (by kernel_rfl)) ?_
              try go_wp2
              (try simp only [← hl184002_3])
              go_roundg k3
              case measure => have := HK1.out; have := HJ8.out; have := HK3.out; omega
              case rel => exact ⟨(wrap64 (x9_3 + 1)), (y186), (by first | rfl | (simp; done) | (simp [*]; done)), H', ⟨by have := HK1.out; have := HJ8.out; have := HK3.out; omega⟩, ⟨by (try simp only [hl184002_1]); (try simp only [hl184002_3]); (with_reducible repeat (first | apply Kd.R_alloc | apply Kd.R_drewN | apply Kd.R_drew)); exact HQ31.out⟩, ⟨by (try simp only [hl184002_1]); (try simp only [hl184002_3]); (with_reducible repeat (first | refine blk_drewN ?_ _ | refine blk_drew ?_ | refine blk_alloc ?_ _)); refine blk_far ?_ (by have h_ := Kd.R_ne HO_184002.out BK183.out (by decide); intro e_; exact h_ (by rw [e_]; rfl)) _; (with_reducible repeat (first | refine blk_drewN ?_ _ | refine blk_drew ?_ | refine blk_alloc ?_ _)); exact BK183.out⟩, ⟨by (try simp only [hl184002_1]); (try simp only [hl184002_3]); (with_reducible repeat (first | refine blk_drewN ?_ _ | refine blk_drew ?_ | refine blk_alloc ?_ _)); refine blk_far ?_ (by have h_ := Kd.R_ne HO_184002.out BK184.out (by decide); intro e_; exact h_ (by rw [e_]; rfl)) _; (with_reducible repeat (first | refine blk_drewN ?_ _ | refine blk_drew ?_ | refine blk_alloc ?_ _)); exact BK184.out⟩, ⟨by repeat (first | (with_reducible first | exact HK.out | apply Kept.alloc | apply Kept.drewN | apply Kept.drew | refine Kept.setCell ?_ HMgo26.out _ | refine Kept.setCell ?_ (.inr GW183.out) _ | refine Kept.setCell ?_ (.inr GW184.out) _) | exact HK.out)⟩, ⟨by repeat (first | (with_reducible first | exact HB.out | apply below_alloc | apply pw_below_drewN | apply below_drew1 | refine below_set ?_ GB26.out | refine below_set ?_ GE183.out | refine below_set ?_ GE184.out) | exact HB.out)⟩⟩
             ·rw [if_neg c25] at H
              exact absurd H (by simp)
            ·rw [if_neg c24] at H
             exact absurd H (by simp)
           ·rw [if_neg c22] at H
            exact absurd H (by simp)
          ·rw [if_neg c21] at H
           exact absurd H (by simp)
         ·rw [if_neg c19] at H
          have c19b0 : decide ((wrap64 (a2 + x9_3)) < a0_0) = false := decide_eq_false c19
          clear c19
          have H' := Aside0.mk H
          clear H
          have hnb32 := NB184_183.out
          have hnc32 := NB183_184.out
          have hcz33_0 : wr.cell? ⟨gb184, 0, none⟩ = some (.int .i64 a1_0) := (blk_cell BK184.out 0).trans rfl
          have hcz33_1 : wr.cell? ⟨gb184, 1, none⟩ = some (.int .i64 a1_1) := (blk_cell BK184.out 1).trans rfl
          have hcz33_2 : wr.cell? ⟨gb184, 2, none⟩ = some (.slice A1_2 l1_2.length c1_2) := (blk_cell BK184.out 2).trans rfl
          have hfz33_0 := blk_frozen BK184.out 0
          have hfz33_1 := blk_frozen BK184.out 1
          have hfz33_2 := blk_frozen BK184.out 2
          have hcz34_0 : wr.cell? ⟨gb183, 0, none⟩ = some (.int .i64 a0_0) := (blk_cell BK183.out 0).trans rfl
          have hcz34_1 : wr.cell? ⟨gb183, 1, none⟩ = some (.int .i64 a0_1) := (blk_cell BK183.out 1).trans rfl
          have hcz34_2 : wr.cell? ⟨gb183, 2, none⟩ = some (.slice Ao6 x184002_3.length co6) := (blk_cell BK183.out 2).trans rfl
          have hfz34_0 := blk_frozen BK183.out 0
          have hfz34_1 := blk_frozen BK183.out 1
          have hfz34_2 := blk_frozen BK183.out 2
          go_wp2
          (try simp only [← hl184002_1, ← hl184002_3])
          go_roundg k3
          case measure => have := HK1.out; have := HJ8.out; have := HK3.out; omega
          case rel => exact ⟨(wrap64 (x8_1 + 1)), (x184002_3), (by first | rfl | (simp; done) | (simp [*]; done)), H', ⟨by have := HK1.out; have := HJ8.out; have := HK3.out; omega⟩, ⟨by (try simp only [hl184002_1]); (try simp only [hl184002_3]); (with_reducible repeat (first | apply Kd.R_alloc | apply Kd.R_drewN | apply Kd.R_drew)); exact HO_184002.out⟩, ⟨by (try simp only [hl184002_1]); (try simp only [hl184002_3]); (with_reducible repeat (first | refine blk_drewN ?_ _ | refine blk_drew ?_ | refine blk_alloc ?_ _)); exact BK183.out⟩, ⟨by (try simp only [hl184002_1]); (try simp only [hl184002_3]); (with_reducible repeat (first | refine blk_drewN ?_ _ | refine blk_drew ?_ | refine blk_alloc ?_ _)); exact BK184.out⟩, ⟨by repeat (first | (with_reducible first | exact HK.out | apply Kept.alloc | apply Kept.drewN | apply Kept.drew | refine Kept.setCell ?_ (.inr GW183.out) _ | refine Kept.setCell ?_ (.inr GW184.out) _) | exact HK.out)⟩, ⟨by repeat (first | (with_reducible first | exact HB.out | apply below_alloc | apply pw_below_drewN | apply below_drew1 | refine below_set ?_ GE183.out | refine below_set ?_ GE184.out) | exact HB.out)⟩⟩
        ·rw [if_neg c18] at H
         have c18b0 : decide (x9_3 < a1_0) = false := decide_eq_false c18
         clear c18
         have H' := Aside0.mk H
         clear H
         have hnb35 := NB184_183.out
         have hnc35 := NB183_184.out
         have hcz36_0 : wr.cell? ⟨gb184, 0, none⟩ = some (.int .i64 a1_0) := (blk_cell BK184.out 0).trans rfl
         have hcz36_1 : wr.cell? ⟨gb184, 1, none⟩ = some (.int .i64 a1_1) := (blk_cell BK184.out 1).trans rfl
         have hcz36_2 : wr.cell? ⟨gb184, 2, none⟩ = some (.slice A1_2 l1_2.length c1_2) := (blk_cell BK184.out 2).trans rfl
         have hfz36_0 := blk_frozen BK184.out 0
         have hfz36_1 := blk_frozen BK184.out 1
         have hfz36_2 := blk_frozen BK184.out 2
         go_wp2
         (try simp only [← hl184002_1, ← hl184002_3])
         go_roundg k3
         case measure => have := HK1.out; have := HJ8.out; have := HK3.out; omega
         case rel => exact ⟨(wrap64 (x8_1 + 1)), (x184002_3), (by first | rfl | (simp; done) | (simp [*]; done)), H', ⟨by have := HK1.out; have := HJ8.out; have := HK3.out; omega⟩, ⟨by (try simp only [hl184002_1]); (try simp only [hl184002_3]); (with_reducible repeat (first | apply Kd.R_alloc | apply Kd.R_drewN | apply Kd.R_drew)); exact HO_184002.out⟩, ⟨by (try simp only [hl184002_1]); (try simp only [hl184002_3]); (with_reducible repeat (first | refine blk_drewN ?_ _ | refine blk_drew ?_ | refine blk_alloc ?_ _)); exact BK183.out⟩, ⟨by (try simp only [hl184002_1]); (try simp only [hl184002_3]); (with_reducible repeat (first | refine blk_drewN ?_ _ | refine blk_drew ?_ | refine blk_alloc ?_ _)); exact BK184.out⟩, ⟨by repeat (first | (with_reducible first | exact HK.out | apply Kept.alloc | apply Kept.drewN | apply Kept.drew | refine Kept.setCell ?_ (.inr GW183.out) _ | refine Kept.setCell ?_ (.inr GW184.out) _) | exact HK.out)⟩, ⟨by repeat (first | (with_reducible first | exact HB.out | apply below_alloc | apply pw_below_drewN | apply below_drew1 | refine below_set ?_ GE183.out | refine below_set ?_ GE184.out) | exact HB.out)⟩⟩
     ·replace c16 := Bool.eq_false_iff.mpr c16
      subst c16
      have H1 : (some x184002_1) = some r := by rw [if_neg (show ¬ (false = true) by decide)] at H; exact H
      clear H
      have H := H1
      clear H1
      obtain rfl := Option.some.inj H
      go_wp2
      first | go_end0 | ((try simp only [Exit.inBlock, Exit.then]); refine bodyPost_ret (results_none rfl _ _ _) rfl ?_)
      exact ⟨by first | rfl | (simp [errW_none, errW_some] <;> rfl) | (simp only [← hji5]; first | rfl | (simp [errW_none, errW_some] <;> rfl)) | (simp [*, errW_none, errW_some] <;> rfl), (by first | exact (by (with_reducible repeat (first | apply Kd.R_alloc | apply Kd.R_drewN | apply Kd.R_drew)); exact HO_184002.out) | (simp only [hl184002_1]; exact (by (with_reducible repeat (first | apply Kd.R_alloc | apply Kd.R_drewN | apply Kd.R_drew)); exact HO_184002.out))), by repeat (first | (with_reducible first | exact HB.out | apply below_alloc | apply pw_below_drewN | apply below_drew1 | refine below_set ?_ GE183.out | refine below_set ?_ GE184.out) | exact HB.out), by repeat (first | (with_reducible first | exact HK.out | apply Kept.alloc | apply Kept.drewN | apply Kept.drew | refine Kept.setCell ?_ (.inr GW183.out) _ | refine Kept.setCell ?_ (.inr GW184.out) _) | exact HK.out)⟩

-- NOT PRINTED: function 36 (codec_Decode)

-- NOT PRINTED: function 37 (codec_Read)

-- NOT PRINTED: function 40 (codec_Region)

def halidehelp_Ints.l0 : Nat → List Int → List Int → Int → Option (Bool)
 | 0, _, _, _ => none
 | k + 1, x0, x1, x5 => if x5 < (x0.length : Int) then (if 0 ≤ x5 then (if x5 < (x1.length : Int) then (if (rd x0 x5) = (rd x1 x5) then (halidehelp_Ints.l0 k x0 x1 (wrap64 (x5 + 1))) else (some false)) else (none)) else (none)) else (some true)
def halidehelp_Ints.f (k : Nat) (l0 : List Int) (l1 : List Int) : Option (Bool) := if (l0.length : Int) = (l1.length : Int) then (halidehelp_Ints.l0 k l0 l1 0) else (some false)
set_option maxHeartbeats 8000000 in
set_option maxRecDepth 100000 in
theorem halidehelp_Ints.calls (k : Nat) (A0 : Option Addr) (c0 : Nat) (l0 : List Int) (A1 : Option Addr) (c1 : Nat) (l1 : List Int) (r : Bool) (w : World) (hr0 : Kd.C (Kd.int .i64) w A0 l0.length l0) (hc0 : l0.length ≤ c0) (hr1 : Kd.C (Kd.int .i64) w A1 l1.length l1) (hc1 : l1.length ≤ c1) (h : halidehelp_Ints.f k l0 l1 = some r) :
    Calls Try.prog 41 #[.slice A0 l0.length c0, .slice A1 l1.length c1] w fun e w' => e = .returned (.bool r) ∧ Drawn0 w w' := by
 have HR0 := Aside0.mk hr0
 have HC0 := Aside0.mk hc0
 clear hr0 hc0
 have HR1 := Aside0.mk hr1
 have HC1 := Aside0.mk hc1
 clear hr1 hc1
 have H : (if (l0.length : Int) = (l1.length : Int) then (halidehelp_Ints.l0 k l0 l1 0) else (some false)) = some r := h
 clear h
 by_cases c3 : (l0.length : Int) = (l1.length : Int)
 ·rw [if_pos c3] at H
  have c3b0 : ((l0.length : Int) == (l1.length : Int)) = true := beq_iff_eq.mpr c3
  have c3b1 : ((l0.length : Int) != (l1.length : Int)) = false := bne_eq_false_iff_eq.mpr c3
  have c3b2 : (l0.length == l1.length) = true := by first | simpa using c3 | (simp at c3 ⊢; omega)
  clear c3
  have H' := Aside0.mk H
  clear H
  go_enter Try.func41, Try.ntmps41
  go_wp2
  repeat (go_quiet (fail); try go_wp2)
  go_loopg [5] k (fun kq v5 w' => ∃ (x5_1 : Int), v5 = .int .i64 x5_1 ∧ Aside0 (halidehelp_Ints.l0 kq l0 l1 x5_1 = some r) ∧ Aside0 (kq ≤ k) ∧ Drawn0 w w')
  case atStart => exact ⟨(0), (by first | rfl | (simp; done) | (simp [*]; done)), H', ⟨Nat.le_refl _⟩, by repeat (first | exact Drawn0.refl _ | apply Drawn0.step)⟩
  case round =>
   clear H'
   try clear c1
   try clear p2
   try clear c3
   try clear c3b0
   try clear c3b1
   try clear c3b2
   obtain ⟨x5_1, rfl, HA, HK1, ⟨m1, rfl⟩⟩ := hrel
   cases gk with
   | zero => exact absurd HA.out (by simp [halidehelp_Ints.l0])
   | succ k1 =>
    have H := HA.out
    clear HA
    simp only [halidehelp_Ints.l0] at H
    by_cases c4 : x5_1 < (l0.length : Int)
    ·rw [if_pos c4] at H
     have c4b0 : decide (x5_1 < (l0.length : Int)) = true := decide_eq_true c4
     clear c4
     by_cases c5 : 0 ≤ x5_1
     ·rw [if_pos c5] at H
      have c5b0 : decide (0 ≤ x5_1) = true := decide_eq_true c5
      clear c5
      by_cases c6 : x5_1 < (l1.length : Int)
      ·rw [if_pos c6] at H
       have c6b0 : decide (x5_1 < (l1.length : Int)) = true := decide_eq_true c6
       clear c6
       by_cases c7 : (rd l0 x5_1) = (rd l1 x5_1)
       ·rw [if_pos c7] at H
        have c7b0 : ((rd l0 x5_1) == (rd l1 x5_1)) = true := beq_iff_eq.mpr c7
        have c7b1 : ((rd l0 x5_1) != (rd l1 x5_1)) = false := bne_eq_false_iff_eq.mpr c7
        clear c7
        have H' := Aside0.mk H
        clear H
        have p191 : 0 ≤ (x5_1 : Int) := of_decide_eq_true (by first | (with_reducible assumption) | assumption)
        have q191 : x5_1 < (l0.length : Int) := of_decide_eq_true (by first | (with_reducible assumption) | assumption)
        obtain ⟨ad191, e191, hx191_0⟩ := Kd.at_int HR0.out x5_1 p191 q191
        cases e191
        replace p191 := eq_true p191
        replace q191 := eq_true q191
        have p192 : 0 ≤ (x5_1 : Int) := of_decide_eq_true (by first | (with_reducible assumption) | assumption)
        have q192 : x5_1 < (l1.length : Int) := of_decide_eq_true (by first | (with_reducible assumption) | assumption)
        obtain ⟨ad192, e192, hx192_0⟩ := Kd.at_int HR1.out x5_1 p192 q192
        cases e192
        replace p192 := eq_true p192
        replace q192 := eq_true q192
        go_wp2
        repeat (go_quiet (fail); try go_wp2)
        go_roundg k1
        case measure => have := HK1.out; omega
        case rel => exact ⟨(wrap64 (x5_1 + 1)), (by first | rfl | (simp; done) | (simp [*]; done)), H', ⟨by have := HK1.out; omega⟩, by repeat (first | exact Drawn0.refl _ | apply Drawn0.step)⟩
       ·rw [if_neg c7] at H
        have c7b0 : ((rd l0 x5_1) == (rd l1 x5_1)) = false := beq_eq_false_iff_ne.mpr c7
        have c7b1 : ((rd l0 x5_1) != (rd l1 x5_1)) = true := bne_iff_ne.mpr c7
        obtain rfl := Option.some.inj H
        have p191 : 0 ≤ (x5_1 : Int) := of_decide_eq_true (by first | (with_reducible assumption) | assumption)
        have q191 : x5_1 < (l0.length : Int) := of_decide_eq_true (by first | (with_reducible assumption) | assumption)
        obtain ⟨ad191, e191, hx191_0⟩ := Kd.at_int HR0.out x5_1 p191 q191
        cases e191
        replace p191 := eq_true p191
        replace q191 := eq_true q191
        have p192 : 0 ≤ (x5_1 : Int) := of_decide_eq_true (by first | (with_reducible assumption) | assumption)
        have q192 : x5_1 < (l1.length : Int) := of_decide_eq_true (by first | (with_reducible assumption) | assumption)
        obtain ⟨ad192, e192, hx192_0⟩ := Kd.at_int HR1.out x5_1 p192 q192
        cases e192
        replace p192 := eq_true p192
        replace q192 := eq_true q192
        go_wp2
        repeat (go_quiet (fail); try go_wp2)
        go_ret
        exact ⟨by first | rfl | (simp; done) | (simp [*]; done), by repeat (first | exact Drawn0.refl _ | apply Drawn0.step)⟩
      ·rw [if_neg c6] at H
       exact absurd H (by simp)
     ·rw [if_neg c5] at H
      exact absurd H (by simp)
    ·rw [if_neg c4] at H
     have c4b0 : decide (x5_1 < (l0.length : Int)) = false := decide_eq_false c4
     clear c4
     obtain rfl := Option.some.inj H
     go_wp2
     repeat (go_quiet (fail); try go_wp2)
     go_ret
     exact ⟨by first | rfl | (simp; done) | (simp [*]; done), by repeat (first | exact Drawn0.refl _ | apply Drawn0.step)⟩
 ·rw [if_neg c3] at H
  have c3b0 : ((l0.length : Int) == (l1.length : Int)) = false := beq_eq_false_iff_ne.mpr c3
  have c3b1 : ((l0.length : Int) != (l1.length : Int)) = true := bne_iff_ne.mpr c3
  have c3b2 : (l0.length == l1.length) = false := by first | simpa using c3 | (simp at c3 ⊢; omega)
  obtain rfl := Option.some.inj H
  go_enter Try.func41, Try.ntmps41
  go_wp2
  repeat (go_quiet (fail); try go_wp2)
  go_ret
  exact ⟨by first | rfl | (simp; done) | (simp [*]; done), by repeat (first | exact Drawn0.refl _ | apply Drawn0.step)⟩

-- NOT PRINTED: function 15 (halidelaw18_known)

-- NOT PRINTED: function 3 (halidelaw18_CodecNames)

end Go.Proofs.Ytbbebhdcfopmmaa.PCodecNames
end
section
set_option linter.unusedVariables false
set_option linter.unusedSimpArgs false
namespace Go.Proofs.Ytbbebhdcfopmmaa.A
open Go.RowKit Go.Proofs.YtbbebhdcfopmmaaW.PrintWords Go.Proofs.YtbbebhdcfopmmaaW.PrintLast Go.Proofs.YtbbebhdcfopmmaaW.PrintMore Go.Proofs.Ytbbebhdcfopmmaa.PCodecNames

/-- numbers as whole numbers -/
def ints (l : List Nat) : List Int := l.map (fun n : Nat => (n : Int))
@[simp] theorem ints_length (l : List Nat) : (ints l).length = l.length := by simp [ints]
theorem ints_append (a b : List Nat) : ints (a ++ b) = ints a ++ ints b := by simp [ints]
theorem ints_inj {a b : List Nat} (h : ints a = ints b) : a = b := by
 have := congrArg (List.map Int.toNat) h
 simpa [ints, Function.comp_def] using this
theorem ints_getD (l : List Nat) (i : Nat) : (ints l).getD i 0 = ((gt l i : Nat) : Int) := by
 unfold gt ints
 rw [List.getD_eq_getElem?_getD, List.getD_eq_getElem?_getD, List.getElem?_map]
 cases l[i]? <;> rfl
theorem rd_ints (l : List Nat) (i : Nat) : rd (ints l) (i : Int) = ((gt l i : Nat) : Int) := by
 unfold rd; rw [Int.toNat_natCast]; exact ints_getD l i
theorem ints_set (l : List Nat) (i v : Nat) : (ints l).set i (v : Int) = ints (l.set i v) := by simp [ints, List.map_set]
theorem ints_replicate (n v : Nat) : List.replicate n (v : Int) = ints (List.replicate n v) := by simp [ints]
section
variable {k : IntKind} {w : World} {A : Option Addr} {n : Nat} {xs : List Nat} {e : TypeId} {B : Nat} {ok : Nat → Prop} {v : Value}
theorem C_ints (h : (nat k).C w A n xs) : (Kd.int k).C w A n (ints xs) := by
 obtain ⟨h1, h2, h3⟩ := Kd.reads_of_C (d := 0) h
 refine Kd.C_of_reads (d := 0) ⟨by rw [ints_length]; exact h1, h2, fun hp => ?_⟩
 obtain ⟨ad, he, hc⟩ := h3 hp
 refine ⟨ad, he, fun j hj => ?_⟩
 rw [hc j hj, ints_getD]
 rfl
theorem C_nats (h : (Kd.int k).C w A n (ints xs)) : (nat k).C w A n xs := by
 obtain ⟨h1, h2, h3⟩ := Kd.reads_of_C (d := 0) h
 refine Kd.C_of_reads (d := 0) ⟨by rw [ints_length] at h1; exact h1, h2, fun hp => ?_⟩
 obtain ⟨ad, he, hc⟩ := h3 hp
 refine ⟨ad, he, fun j hj => ?_⟩
 have := hc j hj
 rw [ints_getD] at this
 exact this
theorem encs_ints : encs (Value.int k) (ints xs) = encs (fun x : Nat => Value.int k x) xs := by simp [encs, ints, Function.comp_def]
theorem R_ints (h : (nat k).R e w B ok v xs) : (Kd.int k).R e w B ok v (ints xs) := by
 refine Kd.R_of_own ?_ h.1
 rw [ints_length, encs_ints]
 exact Kd.own_of_R h
theorem R_nats (h : (Kd.int k).R e w B ok v (ints xs)) : (nat k).R e w B ok v xs := by
 refine Kd.R_of_own ?_ h.1
 have h2 := Kd.own_of_R h
 rw [ints_length, encs_ints] at h2
 exact h2
end
theorem w64 {n : Int} (h0 : -9223372036854775808 ≤ n) (h1 : n < 9223372036854775808) : wrap64 n = n := by unfold wrap64; omega
theorem w64n {n : Nat} (h1 : n < 9223372036854775808) : wrap64 (n : Int) = (n : Int) := w64 (by omega) (by omega)

theorem key_f {d : Nat} (h : d < 4294967296) : bits_Key.f (d : Int) = some ((key d : Nat) : Int) := by
 unfold bits_Key.f key
 split <;> split <;> first | omega | (rw [Option.some.injEq]; omega)
theorem fromKey_f {d : Nat} (h : d < 4294967296) : bits_FromKey.f (d : Int) = some ((fromKey d : Nat) : Int) := by
 unfold bits_FromKey.f fromKey
 split <;> split <;> first | omega | (rw [Option.some.injEq]; omega)
theorem middle_f (a b c : Int) : codec_middle.f a b c = some (mid a b c) := by
 unfold codec_middle.f mid mx mn
 rw [Option.some.injEq]
 simp only [Int.max_def, Int.min_def]
 repeat' split
 all_goals omega
theorem u32_id {m : Nat} (h : m < 4294967296) : (m : Int) % 4294967296 = (m : Int) := by omega
theorem bnd {α β : Type} {o : Option α} {a : α} {f : α → Option β} {r : Option β} (h : o = some a) (h2 : f a = r) : o.bind f = r := by subst h; exact h2
theorem guess_w {x y z : Nat} (k1 : x < 4294967296) (k2 : y < 4294967296) (k3 : z < 4294967296) : wrap64 (wrap64 (wrap64 (x : Int) + wrap64 (y : Int)) - wrap64 (z : Int)) = (x : Int) + (y : Int) - (z : Int) := by
 unfold wrap64; omega
theorem guess_f {l a c : Nat} (hl : l < 4294967296) (ha : a < 4294967296) (hc : c < 4294967296) : codec_Guess.f (l : Int) (a : Int) (c : Int) = some ((guess l a c : Nat) : Int) := by
 have k1 := key_lt hl; have k2 := key_lt ha; have k3 := key_lt hc
 unfold codec_Guess.f
 refine bnd (key_f hl) (bnd (key_f ha) (bnd (key_f hc) ?_))
 show (codec_middle.f (wrap64 (key l : Int)) (wrap64 (key a : Int)) (wrap64 (wrap64 (wrap64 (key l : Int) + wrap64 (key a : Int)) - wrap64 (key c : Int)))).bind (fun t106 => (bits_FromKey.f (t106 % 4294967296)).bind (fun t107 => some t107)) = _
 rw [guess_w k1 k2 k3, w64n (n := key l) (Nat.lt_trans k1 (by decide)), w64n (n := key a) (Nat.lt_trans k2 (by decide))]
 refine bnd (middle_f _ _ _) ?_
 obtain ⟨h0, h1⟩ := mid_range (a := (key l : Int)) (b := (key a : Int)) ((key l : Int) + (key a : Int) - (key c : Int)) ⟨Int.natCast_nonneg _, by omega⟩ ⟨Int.natCast_nonneg _, by omega⟩
 unfold guess
 obtain ⟨M, hM⟩ : ∃ M, M = mid (key l : Int) (key a : Int) ((key l : Int) + (key a : Int) - (key c : Int)) := ⟨_, rfl⟩
 rw [← hM] at h0 h1 ⊢
 clear hM k1 k2 k3
 obtain ⟨m, rfl⟩ : ∃ m : Nat, M = (m : Int) := ⟨M.toNat, by omega⟩
 have hm2 : m < 4294967296 := by omega
 rw [u32_id hm2, Int.toNat_natCast]
 exact bnd (fromKey_f hm2) rfl
end Go.Proofs.Ytbbebhdcfopmmaa.A
end
section
set_option linter.unusedVariables false
set_option linter.unusedSimpArgs false
namespace Go.Proofs.Ytbbebhdcfopmmaa.A
open Go.RowKit Go.Proofs.YtbbebhdcfopmmaaW.PrintWords Go.Proofs.YtbbebhdcfopmmaaW.PrintLast Go.Proofs.YtbbebhdcfopmmaaW.PrintMore Go.Proofs.Ytbbebhdcfopmmaa.PCodecNames

theorem ifp {α : Type} {p : Prop} [Decidable p] {a b r : α} (h : p) (h2 : a = r) : (if p then a else b) = r := by rw [if_pos h]; exact h2
theorem ifn {α : Type} {p : Prop} [Decidable p] {a b r : α} (h : ¬ p) (h2 : b = r) : (if p then a else b) = r := by rw [if_neg h]; exact h2
theorem modN (i W : Nat) : (i : Int) % (W : Int) = ((i % W : Nat) : Int) := by simp
theorem tmodN (i W : Nat) : (i : Int).tmod (W : Int) = ((i % W : Nat) : Int) := by rw [Int.tmod_eq_emod_of_nonneg (Int.natCast_nonneg _)]; exact modN i W
theorem divN (i W : Nat) : (i : Int) / (W : Int) = ((i / W : Nat) : Int) := by simp
theorem tdivN (i W : Nat) : (i : Int).tdiv (W : Int) = ((i / W : Nat) : Int) := by rw [Int.tdiv_eq_ediv_of_nonneg (Int.natCast_nonneg _)]; exact divN i W
theorem sub64 {a b c : Nat} (h : a = b + c) (hc : a < 9223372036854775808) : wrap64 ((a : Int) - (b : Int)) = (c : Int) := by unfold wrap64; omega
theorem sub641 {a c : Nat} (h : a = 1 + c) (hc : a < 9223372036854775808) : wrap64 ((a : Int) - 1) = (c : Int) := by unfold wrap64; omega
theorem add64 {a b : Nat} (hc : a + b < 9223372036854775808) : wrap64 ((a : Int) + (b : Int)) = ((a + b : Nat) : Int) := by unfold wrap64; omega
theorem add641 {a : Nat} (hc : a + 1 < 9223372036854775808) : wrap64 ((a : Int) + 1) = ((a + 1 : Nat) : Int) := by unfold wrap64; omega
/-- the guess at place i of rows of W -/
def guessN (xs : List Nat) (W i : Nat) : Nat := if i = 0 then 0 else if i / W = 0 then gt xs (i - 1) else if i % W = 0 then gt xs (i - W) else guess (gt xs (i - 1)) (gt xs (i - W)) (gt xs (i - W - 1))
theorem guessN_lt {xs : List Nat} {W i : Nat} (h : ∀ i, gt xs i < 4294967296) : guessN xs W i < 4294967296 := by
 unfold guessN
 split
 ·omega
 ·split
  ·exact h _
  ·split
   ·exact h _
   ·exact guess_lt (h _) (h _)
theorem rd_guard {xs : List Nat} {z : Int} {j : Nat} {r : Option Int} {f : Int → Option Int} (hz : z = (j : Int)) (hj : j < xs.length) (h : f ((gt xs j : Nat) : Int) = r) : (if 0 ≤ z then (if z < ((ints xs).length : Int) then f (rd (ints xs) z) else none) else none) = r := by
 subst hz
 rw [if_pos (Int.natCast_nonneg _), if_pos (by rw [ints_length]; omega), rd_ints]
 exact h
theorem rd_guard0 {xs : List Nat} {z : Int} {j : Nat} {r X : Option Int} (hz : z = (j : Int)) (hj : j < xs.length) (h : X = r) : (if 0 ≤ z then (if z < ((ints xs).length : Int) then X else none) else none) = r := by
 subst hz
 rw [if_pos (Int.natCast_nonneg _), if_pos (by rw [ints_length]; omega)]
 exact h
theorem guessed_j {xs : List Nat} {W i : Nat} (k : Nat) (hx : ∀ i, gt xs i < 4294967296) (hW : 0 < W) (hWl : W < 4611686018427387904) (hi : i ≤ xs.length) (hl : xs.length < 4611686018427387904) (b : Bool) (hb : b = decide (i = 0)) :
    codec_guessed.j0 (k + 1) (ints xs) (W : Int) (i : Int) ((i % W : Nat) : Int) ((i / W : Nat) : Int) b = some ((guessN xs W i : Nat) : Int) := by
 unfold codec_guessed.j0 guessN
 by_cases h0 : i = 0
 ·rw [if_pos h0]
  exact ifp (by rw [hb]; exact decide_eq_true h0) rfl
 rw [if_neg h0]
 refine ifn (by rw [hb, decide_eq_false h0]; decide) ?_
 obtain ⟨i1, hi1⟩ : ∃ i1, i = 1 + i1 := ⟨i - 1, by omega⟩
 have e1 : wrap64 ((i : Int) - 1) = (i1 : Int) := sub641 hi1 (by omega)
 have q1 : i - 1 = i1 := by omega
 by_cases hy : i / W = 0
 ·rw [if_pos hy, q1]
  exact ifp (by rw [hy]; rfl) (rd_guard (f := fun x => some x) e1 (by omega) rfl)
 rw [if_neg hy]
 refine ifn (by intro h; exact hy (by omega)) ?_
 have hWi : W ≤ i := by
  by_cases h : i < W
  ·exact absurd (Nat.div_eq_of_lt h) hy
  ·omega
 obtain ⟨i2, hi2⟩ : ∃ i2, i = W + i2 := ⟨i - W, by omega⟩
 have e2 : wrap64 ((i : Int) - (W : Int)) = (i2 : Int) := sub64 hi2 (by omega)
 have q2 : i - W = i2 := by omega
 rw [q2]
 by_cases hm : i % W = 0
 ·rw [if_pos hm]
  exact ifp (by rw [hm]; rfl) (rd_guard (f := fun x => some x) e2 (by omega) rfl)
 rw [if_neg hm, q1]
 refine ifn (by intro h; exact hm (by omega)) ?_
 have hne : i2 ≠ 0 := by
  intro h
  subst h
  exact hm (by rw [hi2]; simp)
 obtain ⟨i3, hi3⟩ : ∃ i3, i2 = 1 + i3 := ⟨i2 - 1, by omega⟩
 have e3 : wrap64 ((i2 : Int) - 1) = (i3 : Int) := sub641 hi3 (by omega)
 have q3 : i2 - 1 = i3 := by omega
 rw [q3]
 refine rd_guard0 e1 (by omega) (rd_guard0 e2 (by omega) ?_)
 rw [e2]
 refine rd_guard0 e3 (by omega) ?_
 rw [e1, e3, rd_ints, rd_ints, rd_ints]
 exact bnd (guess_f (hx _) (hx _) (hx _)) rfl
theorem guessed_f {xs : List Nat} {W i : Nat} (k : Nat) (hx : ∀ i, gt xs i < 4294967296) (hW : 0 < W) (hWl : W < 4611686018427387904) (hi : i ≤ xs.length) (hl : xs.length < 4611686018427387904) :
    codec_guessed.f (k + 1) (ints xs) (W : Int) (i : Int) = some ((guessN xs W i : Nat) : Int) := by
 unfold codec_guessed.f
 have hq : i / W ≤ i := Nat.div_le_self _ _
 rw [if_neg (by omega), tmodN, tdivN, w64n (Nat.lt_of_le_of_lt hq (by omega))]
 by_cases hm : i % W = 0
 ·refine ifp (by rw [hm]; rfl) (guessed_j k hx hW hWl hi hl _ ?_)
  by_cases h0 : i = 0
  ·subst h0
   rw [decide_eq_true rfl, beq_iff_eq, Nat.zero_div]; rfl
  ·rw [decide_eq_false h0, beq_eq_false_iff_ne]
   intro h
   have h1 : i / W = 0 := by omega
   have := Nat.div_add_mod i W
   rw [h1, hm] at this
   exact h0 (by simpa using this.symm)
 ·refine ifn (by intro h; exact hm (by omega)) (guessed_j k hx hW hWl hi hl _ ?_)
  rw [eq_comm, decide_eq_false_iff_not]
  intro h0
  rw [h0] at hm
  exact hm (Nat.zero_mod _)

def restAt (xs : List Nat) (W i : Nat) : Nat := (key (gt xs i) + 4294967296 - key (guessN xs W i)) % 4294967296
def restsTo (xs : List Nat) (W n : Nat) : List Nat := (List.range n).map (restAt xs W)
def restsN (xs : List Nat) (W : Nat) : List Nat := restsTo xs W xs.length
theorem restsTo_succ (xs : List Nat) (W n : Nat) : restsTo xs W (n + 1) = restsTo xs W n ++ [restAt xs W n] := by unfold restsTo; rw [List.range_succ, List.map_append]; rfl
@[simp] theorem restsTo_length (xs : List Nat) (W n : Nat) : (restsTo xs W n).length = n := by simp [restsTo]
theorem restAt_lt (xs : List Nat) (W i : Nat) : restAt xs W i < 4294967296 := Nat.mod_lt _ (by decide)
theorem restAt_cast {a b : Nat} (ha : a < 4294967296) (hb : b < 4294967296) : ((a : Int) - (b : Int)) % 4294967296 = (((a + 4294967296 - b) % 4294967296 : Nat) : Int) := by omega
theorem Rests_l {xs : List Nat} {W : Nat} (hx : ∀ i, gt xs i < 4294967296) (hW : 0 < W) (hWl : W < 4611686018427387904) (H : Int) (hl : xs.length < 35184372088832) : ∀ (d n k : Nat), n + d = xs.length → d + 1 ≤ k →
    codec_Rests.l0 (k + 1) (ints (restsTo xs W n)) (ints xs) ((ints xs).length : Int) (n : Int) (W : Int) H (ints xs) = some (ints (restsN xs W), 0) := by
 intro d
 induction d with
 | zero =>
  intro n k hn hk
  unfold codec_Rests.l0
  refine ifn (by rw [ints_length]; omega) ?_
  obtain rfl : n = xs.length := by omega
  rfl
 | succ d ih =>
  intro n k hn hk
  obtain ⟨k, rfl⟩ : ∃ k', k = k' + 1 := ⟨k - 1, by omega⟩
  unfold codec_Rests.l0
  refine ifp (by rw [ints_length]; omega) (ifp (by omega) (ifp (by rw [ints_length]; omega) ?_))
  rw [rd_ints]
  refine bnd (key_f (hx n)) (bnd (guessed_f k hx hW hWl (by omega) (by omega)) (bnd (key_f (guessN_lt hx)) ?_))
  rw [ints_length, restsTo_length]
  refine ifp (by omega) ?_
  rw [restAt_cast (key_lt (hx n)) (key_lt (guessN_lt hx)), add641 (by omega)]
  have e : ints (restsTo xs W n) ++ [(((key (gt xs n) + 4294967296 - key (guessN xs W n)) % 4294967296 : Nat) : Int)] = ints (restsTo xs W (n + 1)) := by rw [restsTo_succ, ints_append]; rfl
  rw [e]
  exact ih (n + 1) k (by omega) (by omega)
theorem checkE_f (x y : Int) (l : List Int) (hl : l.length < 4611686018427387904) : plane_Check.f x y l = some ((checkE x y l.length : Nat) : Int) := by
 unfold plane_Check.f plane_size.f checkE sizeB
 by_cases h1 : 1 ≤ x
 ·by_cases h2 : 1 ≤ y
  ·by_cases h3 : x ≤ 1024
   ·by_cases h4 : y ≤ 1024
    ·obtain ⟨p1, p2⟩ := prod_bound h1 h2 h3 h4
     have hw : wrap64 (x * y) = x * y := w64 (by omega) (by omega)
     rw [hw, if_pos h1, if_pos h2, if_pos h3, if_pos h4, decide_eq_true h1, decide_eq_true h2, decide_eq_true h3, decide_eq_true h4]
     by_cases h5 : x * y ≤ 65536
     ·rw [decide_eq_true h5]
      simp only [Option.bind_some, Bool.and_true, if_true]
      by_cases h6 : (l.length : Int) = x * y
      ·rw [if_pos h6, if_pos h6]; rfl
      ·rw [if_neg h6, if_neg h6]; rfl
     ·rw [decide_eq_false h5]; rfl
    ·rw [if_pos h1, if_pos h2, if_pos h3, if_neg h4, decide_eq_true h1, decide_eq_true h2, decide_eq_true h3, decide_eq_false h4]; rfl
   ·rw [if_pos h1, if_pos h2, if_neg h3, decide_eq_true h1, decide_eq_true h2, decide_eq_false h3]; rfl
  ·rw [if_pos h1, if_neg h2, decide_eq_true h1, decide_eq_false h2]; rfl
 ·rw [if_neg h1, decide_eq_false h1]; rfl
/-- a plane that may be -/
structure Pl where
 w : Nat
 h : Nat
 s : List Nat
def Pl.ok (p : Pl) : Prop := 0 < p.w ∧ 0 < p.h ∧ p.w ≤ 1024 ∧ p.h ≤ 1024 ∧ p.w * p.h ≤ 65536 ∧ p.s.length = p.w * p.h ∧ ∀ i, gt p.s i < 4294967296
theorem Pl.ok.check {p : Pl} (h : p.ok) : plane_Check.f (p.w : Int) (p.h : Int) (ints p.s) = some 0 := by
 obtain ⟨h1, h2, h3, h4, h5, h6, h7⟩ := h
 rw [checkE_f _ _ _ (by rw [ints_length]; omega)]
 unfold checkE
 have h8 : sizeB (p.w : Int) (p.h : Int) = true := by
  unfold sizeB
  simp only [Bool.and_eq_true, decide_eq_true_eq]
  refine ⟨⟨⟨⟨by omega, by omega⟩, by omega⟩, by omega⟩, ?_⟩
  have : ((p.w * p.h : Nat) : Int) ≤ 65536 := by omega
  simpa using this
 rw [if_pos h8, if_pos (by rw [ints_length, h6]; simp)]
 rfl
theorem checkE_zero {x y : Int} {n : Nat} (h : checkE x y n = 0) : ∃ W H : Nat, x = W ∧ y = H ∧ 0 < W ∧ 0 < H ∧ W ≤ 1024 ∧ H ≤ 1024 ∧ W * H ≤ 65536 ∧ n = W * H := by
 unfold checkE at h
 by_cases hs : sizeB x y = true
 ·rw [if_pos hs] at h
  obtain ⟨h1, h2, h3, h4, h5⟩ := sizeB_true hs
  by_cases hn : (n : Int) = x * y
  ·obtain ⟨W, rfl⟩ : ∃ W : Nat, x = W := ⟨x.toNat, by omega⟩
   obtain ⟨H, rfl⟩ : ∃ H : Nat, y = H := ⟨y.toNat, by omega⟩
   refine ⟨W, H, rfl, rfl, by omega, by omega, by omega, by omega, ?_, ?_⟩
   ·have : ((W * H : Nat) : Int) ≤ 65536 := by simpa using h5
    omega
   ·have : (n : Int) = ((W * H : Nat) : Int) := by simpa using hn
    omega
  ·rw [if_neg hn] at h; exact absurd h (by decide)
 ·rw [if_neg hs] at h; exact absurd h (by decide)
theorem Rests_f {p : Pl} (h : p.ok) (k : Nat) (hk : p.s.length + 1 ≤ k) : codec_Rests.f (k + 1) (p.w : Int) (p.h : Int) (ints p.s) = some (ints (restsN p.s p.w), 0) := by
 unfold codec_Rests.f
 refine bnd h.check (ifp rfl ?_)
 obtain ⟨h1, h2, h3, h4, h5, h6, h7⟩ := h
 have := Rests_l (xs := p.s) (W := p.w) h7 h1 (by omega) (p.h : Int) (by omega) p.s.length 0 k (by omega) (by omega)
 exact this
def backAt (acc rs : List Nat) (W n : Nat) : Nat := fromKey ((key (guessN acc W n) + gt rs n) % 4294967296)
def planeTo (rs : List Nat) (W : Nat) : Nat → List Nat
 | 0 => []
 | n + 1 => planeTo rs W n ++ [backAt (planeTo rs W n) rs W n]
def planeN (rs : List Nat) (W : Nat) : List Nat := planeTo rs W rs.length
@[simp] theorem planeTo_length (rs : List Nat) (W n : Nat) : (planeTo rs W n).length = n := by
 induction n with
 | zero => rfl
 | succ n ih => simp [planeTo, ih]
theorem gt_append_right {a b : List Nat} {i : Nat} (h : a.length ≤ i) : gt (a ++ b) i = gt b (i - a.length) := by
 unfold gt; rw [List.getD_eq_getElem?_getD, List.getD_eq_getElem?_getD, List.getElem?_append_right h]
theorem gt_replicate (n i : Nat) : gt (List.replicate n 0) i = 0 := by
 unfold gt
 rw [List.getD_eq_getElem?_getD, List.getElem?_replicate]
 split <;> rfl
theorem guessN_congr {a b : List Nat} {W i : Nat} (hW : 0 < W) (h : ∀ j, j < i → gt a j = gt b j) : guessN a W i = guessN b W i := by
 unfold guessN
 by_cases h0 : i = 0
 ·rw [if_pos h0, if_pos h0]
 rw [if_neg h0, if_neg h0, h (i - 1) (by omega), h (i - W) (by omega), h (i - W - 1) (by omega)]
theorem backAt_lt (acc rs : List Nat) (W n : Nat) : backAt acc rs W n < 4294967296 := fromKey_lt (Nat.mod_lt _ (by decide))
theorem gt_lt_of {l : List Nat} {m : Nat} (hm : 0 < m) (h : ∀ x ∈ l, x < m) (i : Nat) : gt l i < m := by
 unfold gt
 rw [List.getD_eq_getElem?_getD]
 by_cases hi : i < l.length
 ·rw [List.getElem?_eq_getElem hi]; exact h _ (List.getElem_mem hi)
 ·rw [List.getElem?_eq_none (by omega)]; exact hm
theorem mem_lt_of {l : List Nat} {m : Nat} (h : ∀ i, gt l i < m) : ∀ x ∈ l, x < m := by
 intro x hx
 obtain ⟨i, hi, rfl⟩ := List.getElem_of_mem hx
 have := h i
 unfold gt at this
 rwa [List.getD_eq_getElem?_getD, List.getElem?_eq_getElem hi] at this
theorem planeTo_lt (rs : List Nat) (W n : Nat) : ∀ i, gt (planeTo rs W n) i < 4294967296 := by
 refine gt_lt_of (by decide) ?_
 induction n with
 | zero => simp [planeTo]
 | succ n ih =>
  intro x hx
  unfold planeTo at hx
  rcases List.mem_append.mp hx with hx | hx
  ·exact ih x hx
  ·rw [List.mem_singleton.mp hx]; exact backAt_lt _ _ _ _
theorem set_pad (a : List Nat) (m v : Nat) : (a ++ List.replicate (m + 1) 0).set a.length v = (a ++ [v]) ++ List.replicate m 0 := by
 rw [List.set_append_right _ _ (Nat.le_refl _), Nat.sub_self, List.replicate_succ, List.set_cons_zero, List.append_assoc]; rfl
theorem padded_lt {a : List Nat} (m : Nat) (h : ∀ i, gt a i < 4294967296) : ∀ i, gt (a ++ List.replicate m 0) i < 4294967296 := by
 intro i
 by_cases hi : i < a.length
 ·rw [gt_append_left hi]; exact h i
 ·rw [gt_append_right (by omega), gt_replicate]; decide
theorem Plane_l {rs : List Nat} {W H : Nat} (hx : ∀ i, gt rs i < 4294967296) (hW : 0 < W) (hWl : W < 4611686018427387904) (hl : rs.length < 35184372088832) : ∀ (d n k : Nat), n + d = rs.length → d + 1 ≤ k →
    codec_Plane.l0 (k + 1) (W : Int) (ints rs) ((ints rs).length : Int) (n : Int) (W : Int) (H : Int) (ints (planeTo rs W n ++ List.replicate d 0)) = some ((W : Int), (H : Int), ints (planeN rs W), 0) := by
 intro d
 induction d with
 | zero =>
  intro n k hn hk
  unfold codec_Plane.l0
  refine ifn (by rw [ints_length]; omega) ?_
  obtain rfl : n = rs.length := by omega
  rw [List.replicate_zero, List.append_nil]
  rfl
 | succ d ih =>
  intro n k hn hk
  obtain ⟨k, rfl⟩ : ∃ k', k = k' + 1 := ⟨k - 1, by omega⟩
  have hlen : (planeTo rs W n ++ List.replicate (d + 1) 0).length = rs.length := by rw [List.length_append, planeTo_length, List.length_replicate]; omega
  unfold codec_Plane.l0
  refine ifp (by rw [ints_length]; omega) (ifp (by omega) (ifp (by rw [ints_length]; omega) ?_))
  refine bnd (guessed_f k (padded_lt _ (planeTo_lt rs W n)) hW hWl (by omega) (by omega)) ?_
  have hg : guessN (planeTo rs W n ++ List.replicate (d + 1) 0) W n = guessN (planeTo rs W n) W n := guessN_congr hW (fun j hj => gt_append_left (by rw [planeTo_length]; exact hj))
  rw [hg]
  refine bnd (key_f (guessN_lt (planeTo_lt rs W n))) ?_
  rw [rd_ints]
  have hm : ((key (guessN (planeTo rs W n) W n) : Nat) : Int) + ((gt rs n : Nat) : Int) = ((key (guessN (planeTo rs W n) W n) + gt rs n : Nat) : Int) := by simp
  have hm2 : (((key (guessN (planeTo rs W n) W n) + gt rs n : Nat) : Int)) % 4294967296 = (((key (guessN (planeTo rs W n) W n) + gt rs n) % 4294967296 : Nat) : Int) := by omega
  rw [hm, hm2]
  refine bnd (fromKey_f (Nat.mod_lt _ (by decide))) (ifp (by rw [ints_length, hlen]; omega) ?_)
  have e : (ints (planeTo rs W n ++ List.replicate (d + 1) 0)).set ((n : Int)).toNat ((fromKey ((key (guessN (planeTo rs W n) W n) + gt rs n) % 4294967296) : Nat) : Int) = ints (planeTo rs W (n + 1) ++ List.replicate d 0) := by
   rw [Int.toNat_natCast, ints_set]
   have := set_pad (planeTo rs W n) d (backAt (planeTo rs W n) rs W n)
   rw [planeTo_length] at this
   exact congrArg ints this
  rw [e, add641 (by omega)]
  exact ih (n + 1) k (by omega) (by omega)
theorem Plane_f {W H : Nat} {rs : List Nat} (h : (Pl.mk W H rs).ok) (k : Nat) (hk : rs.length + 1 ≤ k) : codec_Plane.f (k + 1) (W : Int) (H : Int) (ints rs) = some ((W : Int), (H : Int), ints (planeN rs W), 0) := by
 unfold codec_Plane.f
 have hc := h.check
 obtain ⟨h1, h2, h3, h4, h5, h6, h7⟩ := h
 simp only at h1 h2 h3 h4 h5 h6 h7 hc
 refine bnd hc (ifp rfl (ifp (by omega) (ifp (by rw [ints_length, Int.toNat_natCast]; omega) ?_)))
 have e : List.replicate ((ints rs).length : Int).toNat (0 : Int) = ints (planeTo rs W 0 ++ List.replicate rs.length 0) := by
  rw [ints_length, Int.toNat_natCast]
  exact ints_replicate rs.length 0
 rw [e]
 have := Plane_l (rs := rs) (W := W) (H := H) h7 h1 (by omega) (by omega) rs.length 0 k (by omega) (by omega)
 exact this
theorem restBack {g x : Nat} (hg : g < 4294967296) (hx : x < 4294967296) : fromKey ((key g + (key x + 4294967296 - key g) % 4294967296) % 4294967296) = x := by
 have h1 := key_lt hg; have h2 := key_lt hx
 rw [show (key g + (key x + 4294967296 - key g) % 4294967296) % 4294967296 = key x by omega, fromKey_key hx]
theorem gt_restsTo {xs : List Nat} {W n i : Nat} (h : i < n) : gt (restsTo xs W n) i = restAt xs W i := by
 unfold gt restsTo
 rw [List.getD_eq_getElem?_getD, List.getElem?_map, List.getElem?_range h, Option.map_some, Option.getD_some]
theorem gt_planeTo {rs : List Nat} {W : Nat} : ∀ {n i : Nat}, i < n → gt (planeTo rs W n) i = backAt (planeTo rs W i) rs W i := by
 intro n
 induction n with
 | zero => intro i h; omega
 | succ n ih =>
  intro i h
  by_cases hi : i < n
  ·rw [planeTo, gt_append_left (by rw [planeTo_length]; exact hi)]; exact ih hi
  ·obtain rfl : i = n := by omega
   rw [planeTo, gt_append_right (by rw [planeTo_length]; exact Nat.le_refl _), planeTo_length, Nat.sub_self]; rfl
theorem planeTo_prefix {rs : List Nat} {W : Nat} {i n j : Nat} (h : i ≤ n) (hj : j < i) : gt (planeTo rs W n) j = gt (planeTo rs W i) j := by
 rw [gt_planeTo (by omega), gt_planeTo hj]
theorem planeN_rests {xs : List Nat} {W : Nat} (hx : ∀ i, gt xs i < 4294967296) (hW : 0 < W) : planeN (restsN xs W) W = xs := by
 have hl : (restsN xs W).length = xs.length := restsTo_length _ _ _
 have key : ∀ n, n ≤ xs.length → ∀ i, i < n → gt (planeTo (restsN xs W) W n) i = gt xs i := by
  intro n
  induction n with
  | zero => intro _ i h; omega
  | succ n ih =>
   intro hn i hi
   by_cases h : i < n
   ·rw [planeTo_prefix (Nat.le_succ n) h]; exact ih (by omega) i h
   ·obtain rfl : i = n := by omega
    rw [gt_planeTo (Nat.lt_succ_self i)]
    unfold backAt
    rw [guessN_congr (b := xs) hW (ih (by omega)), show gt (restsN xs W) i = restAt xs W i from gt_restsTo (by omega)]
    exact restBack (guessN_lt hx) (hx i)
 refine eq_of_gt (by unfold planeN; rw [planeTo_length, hl]) (fun i hi => ?_)
 unfold planeN at hi ⊢
 rw [planeTo_length, hl] at hi
 rw [hl]
 exact key xs.length (Nat.le_refl _) i hi
end Go.Proofs.Ytbbebhdcfopmmaa.A
end
section
set_option linter.unusedVariables false
set_option linter.unusedSimpArgs false
namespace Go.Proofs.Ytbbebhdcfopmmaa.A
open Go.RowKit Go.Proofs.YtbbebhdcfopmmaaW.PrintWords Go.Proofs.YtbbebhdcfopmmaaW.PrintLast Go.Proofs.YtbbebhdcfopmmaaW.PrintMore Go.Proofs.Ytbbebhdcfopmmaa.PCodecNames

/-- a number's bytes, the highest first -/
def beN : Nat → Nat → List Nat
 | 0, _ => []
 | n + 1, v => v / 2 ^ (8 * n) % 256 :: beN n v
@[simp] theorem beN_length (n v : Nat) : (beN n v).length = n := by
 induction n with
 | zero => rfl
 | succ n ih => simp [beN, ih]
theorem beN_lt (n v : Nat) : ∀ x ∈ beN n v, x < 256 := by
 induction n with
 | zero => simp [beN]
 | succ n ih =>
  intro x hx
  unfold beN at hx
  rcases List.mem_cons.mp hx with rfl | hx
  ·exact Nat.mod_lt _ (by decide)
  ·exact ih x hx
theorem shr64 (v n : Nat) (hn : n ≤ 7) : (shr .i64 (v : Int) (wrap64 (8 * (n : Int)))) % 256 = ((v / 2 ^ (8 * n) % 256 : Nat) : Int) := by
 have e : wrap64 (8 * (n : Int)) = ((8 * n : Nat) : Int) := by unfold wrap64; omega
 unfold shr
 rw [e, Int.toNat_natCast, Nat.min_eq_left (show 8 * n ≤ IntKind.i64.bits by show 8 * n ≤ 64; omega)]
 simp
theorem numbered_l (v : Nat) : ∀ (n k : Nat) (b : List Nat), n ≤ 8 → n + 1 ≤ k → b.length + n < 140737488355328 → codec_numbered.l0 k (ints b) ((n : Int) - 1) (v : Int) = some (ints (b ++ beN n v)) := by
 intro n
 induction n with
 | zero =>
  intro k b hn hk hb
  obtain ⟨k, rfl⟩ : ∃ k', k = k' + 1 := ⟨k - 1, by omega⟩
  unfold codec_numbered.l0
  exact ifn (by omega) (by rw [beN, List.append_nil])
 | succ n ih =>
  intro k b hn hk hb
  obtain ⟨k, rfl⟩ : ∃ k', k = k' + 1 := ⟨k - 1, by omega⟩
  unfold codec_numbered.l0
  have e1 : ((n + 1 : Nat) : Int) - 1 = (n : Int) := by omega
  rw [e1]
  refine ifp (by omega) (ifp (by rw [w64 (by omega) (by omega)]; omega) (ifp (by rw [ints_length]; omega) ?_))
  rw [shr64 v n (by omega), w64 (n := (n : Int) - 1) (by omega) (by omega)]
  have e2 : ints b ++ [((v / 2 ^ (8 * n) % 256 : Nat) : Int)] = ints (b ++ [v / 2 ^ (8 * n) % 256]) := by rw [ints_append]; rfl
  rw [e2, ih k _ (by omega) (by omega) (by rw [List.length_append, List.length_singleton]; omega), List.append_assoc]
  rfl
theorem numbered_f (b : List Nat) (n v k : Nat) (hn : n ≤ 8) (hk : n + 1 ≤ k) (hb : b.length < 70368744177664) : codec_numbered.f k (ints b) (n : Int) (v : Int) = some (ints (b ++ beN n v)) := by
 unfold codec_numbered.f
 rw [w64 (n := (n : Int) - 1) (by omega) (by omega)]
 exact numbered_l v n k b hn hk (by omega)
/-- the number of bytes, the highest first -/
def numL (n : Nat) (l : List Nat) : Nat := l.foldl (fun n c => n * 256 + c) n
theorem wraps_i64 (n : Int) (h0 : 0 ≤ n) (h1 : n < 2 ^ 63) : IntKind.i64.wrap n = n := by simp only [IntKind.wrap_i64]; omega
theorem or256 {a c : Nat} (ha : a < 36028797018963968) (hc : c < 256) : Go.bits .or .i64 ((a : Int) * 256) (c : Int) = ((a * 256 + c : Nat) : Int) := by
 have h := bits_join .i64 63 (by decide) wraps_i64 8 ((a : Int) * 256) (c : Int) (by omega) (by omega) (by omega) (by omega) (by omega) (by omega)
 rw [h]; omega
theorem numL_cons (n c : Nat) (l : List Nat) : numL n (c :: l) = numL (n * 256 + c) l := rfl
theorem number_l {l : List Nat} (hl : l.length ≤ 6) (h8 : ∀ i, gt l i < 256) : ∀ (d i k n : Nat), i + d = l.length → d + 1 ≤ k → n < 256 ^ i →
    codec_number.l0 k (n : Int) (ints l) ((ints l).length : Int) (i : Int) = some ((numL n (l.drop i) : Nat) : Int) := by
 intro d
 induction d with
 | zero =>
  intro i k n hi hk hn
  obtain ⟨k, rfl⟩ : ∃ k', k = k' + 1 := ⟨k - 1, by omega⟩
  unfold codec_number.l0
  refine ifn (by rw [ints_length]; omega) ?_
  rw [List.drop_of_length_le (by omega)]
  rfl
 | succ d ih =>
  intro i k n hi hk hn
  obtain ⟨k, rfl⟩ : ∃ k', k = k' + 1 := ⟨k - 1, by omega⟩
  unfold codec_number.l0
  refine ifp (by rw [ints_length]; omega) (ifp (by omega) (ifp (by rw [ints_length]; omega) ?_))
  have hn2 : n < 1099511627776 := by
   have : 256 ^ i ≤ 256 ^ 5 := Nat.pow_le_pow_right (by decide) (by omega)
   omega
  have hc := h8 i
  rw [rd_ints, w64 (n := (n : Int) * 256) (by omega) (by omega), w64n (n := gt l i) (by omega), or256 (by omega) hc, add641 (by omega)]
  have hd : l.drop i = gt l i :: l.drop (i + 1) := by
   rw [List.drop_eq_getElem_cons (show i < l.length by omega)]
   unfold gt
   rw [List.getD_eq_getElem?_getD, List.getElem?_eq_getElem (show i < l.length by omega)]; rfl
  rw [hd, numL_cons]
  refine ih (i + 1) k _ (by omega) (by omega) ?_
  rw [Nat.pow_succ]
  omega
theorem number_f (l : List Nat) (k : Nat) (hl : l.length ≤ 6) (h8 : ∀ i, gt l i < 256) (hk : 8 ≤ k) : codec_number.f k (ints l) = some ((numL 0 l : Nat) : Int) := by
 unfold codec_number.f
 have := number_l hl h8 l.length 0 k 0 (by omega) (by omega) (by decide)
 rwa [List.drop_zero] at this

def acrossN (W S : Nat) : Nat := (W + S - 1) / S
theorem across_f (sp pl H : Int) (W S : Nat) (hS : 0 < S) (hW : W < 1048576) (hS2 : S < 1048576) : codec_grid_across.f sp pl (W : Int) H (S : Int) = some ((acrossN W S : Nat) : Int) := by
 unfold codec_grid_across.f acrossN
 rw [if_neg (by omega), add64 (by omega), show ((W + S : Nat) : Int) = ((1 + (W + S - 1) : Nat) : Int) by omega, sub641 (c := W + S - 1) rfl (by omega), tdivN, w64n]
 exact Nat.lt_of_le_of_lt (Nat.div_le_self _ _) (by omega)
theorem acrossN_le (W S : Nat) : acrossN W S ≤ W := by
 unfold acrossN
 by_cases hS : S = 0
 ·subst hS; simp
 ·by_cases hW : W = 0
  ·subst hW
   rw [Nat.div_eq_of_lt (by omega)]
   exact Nat.le_refl 0
  ·refine Nat.div_le_of_le_mul ?_
   have h1 : 1 ≤ S := by omega
   have h2 : 1 ≤ W := by omega
   obtain ⟨a, rfl⟩ : ∃ a, S = a + 1 := ⟨S - 1, by omega⟩
   obtain ⟨b, rfl⟩ : ∃ b, W = b + 1 := ⟨W - 1, by omega⟩
   have : (a + 1) * (b + 1) = a * b + a + b + 1 := by simp [Nat.add_mul, Nat.mul_add]; omega
   have h3 : 0 ≤ a * b := Nat.zero_le _
   omega
theorem acrossN_pos {W S : Nat} (hW : 0 < W) (hS : 0 < S) : 0 < acrossN W S := Nat.div_pos (by omega) hS
def tilesN (W H S : Nat) : Nat := acrossN W S * acrossN H S
theorem tiles_f (sp pl : Int) (W H S : Nat) (hS : 0 < S) (hW : W < 1048576) (hH : H < 1048576) (hS2 : S < 1048576) : codec_grid_tiles.f sp pl (W : Int) (H : Int) (S : Int) = some ((tilesN W H S : Nat) : Int) := by
 unfold codec_grid_tiles.f
 refine bnd (across_f sp pl H W S hS hW hS2) (ifn (by omega) ?_)
 rw [add64 (by omega), show ((H + S : Nat) : Int) = ((1 + (H + S - 1) : Nat) : Int) by omega, sub641 (c := H + S - 1) rfl (by omega), tdivN, w64n (Nat.lt_of_le_of_lt (Nat.div_le_self _ _) (by omega)), ← Int.natCast_mul, w64n]
 ·rfl
 ·have h1 := acrossN_le W S
  have h2 : (H + S - 1) / S ≤ H := acrossN_le H S
  have h3 := Nat.mul_le_mul h1 h2
  have h4 := Nat.mul_le_mul (Nat.le_of_lt hW) (Nat.le_of_lt hH)
  exact Nat.lt_of_le_of_lt (Nat.le_trans h3 h4) (by decide)
def tX (W S t : Nat) : Nat := t % acrossN W S * S
def tY (W S t : Nat) : Nat := t / acrossN W S * S
theorem mn_min (a b : Nat) : mn (a : Int) (b : Int) = ((min a b : Nat) : Int) := by
 unfold mn; split <;> omega
theorem rect_f (sp pl : Int) (W H S t : Nat) (hS : 0 < S) (hW0 : 0 < W) (hW : W < 1048576) (hH : H < 1048576) (hS2 : S < 1048576) (ht : t < 1099511627776) :
    codec_grid_rect.f sp pl (W : Int) (H : Int) (S : Int) (t : Int) = some (((tX W S t : Nat) : Int), ((tY W S t : Nat) : Int), ((min (tX W S t + S) W : Nat) : Int), ((min (tY W S t + S) H : Nat) : Int)) := by
 have ha := acrossN_pos hW0 hS
 have hal := acrossN_le W S
 unfold codec_grid_rect.f
 refine bnd (across_f sp pl H W S hS hW hS2) (ifn (by omega) (bnd (across_f sp pl H W S hS hW hS2) (ifn (by omega) ?_)))
 have hx : tX W S t < 1099511627776 := by
  unfold tX
  have h1 : t % acrossN W S ≤ 1048576 := Nat.le_of_lt (Nat.lt_of_lt_of_le (Nat.mod_lt _ ha) (by omega))
  exact Nat.lt_of_le_of_lt (Nat.mul_le_mul h1 (Nat.le_refl S)) (by omega)
 have hy : tY W S t < 1152921504606846976 := by
  unfold tY
  have h1 : t / acrossN W S ≤ t := Nat.div_le_self _ _
  have := Nat.mul_le_mul h1 (Nat.le_of_lt hS2)
  omega
 have hq : t / acrossN W S < 9223372036854775808 := Nat.lt_of_le_of_lt (Nat.div_le_self _ _) (by omega)
 rw [tmodN, tdivN, w64n hq, ← Int.natCast_mul, ← Int.natCast_mul]
 rw [show t % acrossN W S * S = tX W S t from rfl, show t / acrossN W S * S = tY W S t from rfl, w64n (n := tX W S t) (by omega), w64n (n := tY W S t) (by omega), add64 (by omega), add64 (by omega), mn_min, mn_min]

def firstErr : List S31 → Nat
 | [] => 0
 | p :: t => if checkE p.f0 p.f1 p.f2.length = 0 then firstErr t else checkE p.f0 p.f1 p.f2.length
def sameSize (a : S31) : List S31 → Bool
 | [] => true
 | p :: t => decide (p.f0 = a.f0) && decide (p.f1 = a.f1) && sameSize a t
def spaceE (sp : Int) (n : Nat) : Nat := if sp < 0 ∨ 4 < sp ∨ (sp ≠ 0 ∧ n < 3) then 81 else 0
def picE (sp : Int) (l : List S31) : Nat := if l.length = 0 ∨ 4 < l.length then 80 else if firstErr l ≠ 0 then firstErr l else if sameSize (rd_T31 l 0) l = true then spaceE sp l.length else 80
theorem spaceE_f (sp : Int) (n : Nat) : picture_spaceOf.f sp (n : Int) = some ((spaceE sp n : Nat) : Int) := by
 unfold picture_spaceOf.f spaceE
 by_cases h1 : sp < 0
 ·rw [if_pos h1, if_pos (.inl h1)]; rfl
 by_cases h2 : 4 < sp
 ·rw [if_neg h1, if_pos h2, if_pos (.inr (.inl h2))]; rfl
 by_cases h3 : sp = 0
 ·rw [if_neg h1, if_neg h2, if_pos h3, if_neg (by omega)]; rfl
 by_cases h4 : n < 3
 ·rw [if_neg h1, if_neg h2, if_neg h3, if_pos (by omega), if_pos (by omega)]; rfl
 ·rw [if_neg h1, if_neg h2, if_neg h3, if_neg (by omega), if_neg (by omega)]; rfl
theorem rdT_drop {l : List S31} {i : Nat} (hi : i < l.length) : l.drop i = rd_T31 l (i : Int) :: l.drop (i + 1) := by
 rw [List.drop_eq_getElem_cons hi]
 unfold rd_T31
 rw [Int.toNat_natCast, List.getD_eq_getElem?_getD, List.getElem?_eq_getElem hi]; rfl
end Go.Proofs.Ytbbebhdcfopmmaa.A
end
section
set_option linter.unusedVariables false
set_option linter.unusedSimpArgs false
namespace Go.Proofs.Ytbbebhdcfopmmaa.A
open Go.RowKit Go.Proofs.YtbbebhdcfopmmaaW.PrintWords Go.Proofs.YtbbebhdcfopmmaaW.PrintLast Go.Proofs.YtbbebhdcfopmmaaW.PrintMore Go.Proofs.Ytbbebhdcfopmmaa.PCodecNames

def rowN (n w : Nat) : Nat := n / w
def colN (n w : Nat) : Nat := n % w
/-- place n of a plane over which another one is laid -/
def pasteVal (ps qs : List Nat) (pw qw qh : Nat) (x y : Int) (n : Nat) : Nat :=
 if x ≤ ((colN n pw : Nat) : Int) ∧ ((colN n pw : Nat) : Int) < x + qw ∧ y ≤ ((rowN n pw : Nat) : Int) ∧ ((rowN n pw : Nat) : Int) < y + qh then gt qs ((((rowN n pw : Nat) : Int) - y).toNat * qw + (((colN n pw : Nat) : Int) - x).toNat) else gt ps n
def pasteN (ps qs : List Nat) (pw qw qh : Nat) (x y : Int) : List Nat := (List.range ps.length).map (pasteVal ps qs pw qw qh x y)
@[simp] theorem pasteN_length (ps qs : List Nat) (pw qw qh : Nat) (x y : Int) : (pasteN ps qs pw qw qh x y).length = ps.length := by simp [pasteN]
theorem gt_pasteN {ps qs : List Nat} {pw qw qh : Nat} {x y : Int} {n : Nat} (h : n < ps.length) : gt (pasteN ps qs pw qw qh x y) n = pasteVal ps qs pw qw qh x y n := by
 unfold gt pasteN
 rw [List.getD_eq_getElem?_getD, List.getElem?_map, List.getElem?_range h, Option.map_some, Option.getD_some]
section
variable {ps qs : List Nat} {pw ph qw qh : Nat} {x y : Int}
def PartI (ps qs : List Nat) (pw qw qh : Nat) (x y : Int) (L : List Nat) (J I : Int) : Prop :=
 L.length = ps.length ∧ ∀ n, n < ps.length → gt L n = if ((rowN n pw : Nat) : Int) < J ∨ (((rowN n pw : Nat) : Int) = J ∧ ((colN n pw : Nat) : Int) < I) then pasteVal ps qs pw qw qh x y n else gt ps n
def PartJ (ps qs : List Nat) (pw qw qh : Nat) (x y : Int) (L : List Nat) (J : Int) : Prop :=
 L.length = ps.length ∧ ∀ n, n < ps.length → gt L n = if ((rowN n pw : Nat) : Int) < J then pasteVal ps qs pw qw qh x y n else gt ps n
theorem part_begin {J : Int} (hJ : J ≤ y ∨ J ≤ 0) : PartJ ps qs pw qw qh x y ps J := by
 refine ⟨rfl, fun n hn => ?_⟩
 split
 ·rename_i h
  unfold pasteVal
  rw [if_neg (by omega)]
 ·rfl
theorem part_in {L : List Nat} {J I : Int} (h : PartJ ps qs pw qw qh x y L J) (hI : I ≤ x ∨ I ≤ 0) : PartI ps qs pw qw qh x y L J I := by
 refine ⟨h.1, fun n hn => ?_⟩
 rw [h.2 n hn]
 by_cases h1 : ((rowN n pw : Nat) : Int) < J
 ·rw [if_pos h1, if_pos (.inl h1)]
 ·rw [if_neg h1]
  split
  ·unfold pasteVal
   rw [if_neg (by omega)]
  ·rfl
theorem part_out {L : List Nat} {J I : Int} (h : PartI ps qs pw qw qh x y L J I) (hp : 0 < pw) (hI : x + qw ≤ I ∨ (pw : Int) ≤ I) : PartJ ps qs pw qw qh x y L (J + 1) := by
 refine ⟨h.1, fun n hn => ?_⟩
 rw [h.2 n hn]
 have hm : colN n pw < pw := Nat.mod_lt n hp
 by_cases h1 : ((rowN n pw : Nat) : Int) < J
 ·rw [if_pos (.inl h1), if_pos (by omega)]
 ·by_cases h2 : ((rowN n pw : Nat) : Int) = J
  ·rw [if_pos (show ((rowN n pw : Nat) : Int) < J + 1 by omega)]
   by_cases h3 : ((colN n pw : Nat) : Int) < I
   ·rw [if_pos (.inr ⟨h2, h3⟩)]
   ·rw [if_neg (by omega)]
    unfold pasteVal
    rw [if_neg (by omega)]
  ·rw [if_neg (by omega), if_neg (by omega)]
theorem part_end {L : List Nat} {J : Int} (h : PartJ ps qs pw qw qh x y L J) (hp : 0 < pw) (hl : ps.length = pw * ph) (hJ : y + qh ≤ J ∨ (ph : Int) ≤ J) : L = pasteN ps qs pw qw qh x y := by
 refine eq_of_gt (by rw [pasteN_length]; exact h.1) (fun n hn => ?_)
 rw [h.1] at hn
 rw [gt_pasteN hn, h.2 n hn]
 have hd : rowN n pw < ph := by
  rw [hl] at hn
  exact Nat.div_lt_of_lt_mul hn
 split
 ·rfl
 ·unfold pasteVal
  rw [if_neg (by omega)]
theorem part_step {L : List Nat} {J I : Nat} (h : PartI ps qs pw qw qh x y L (J : Int) (I : Int)) (hI : I < pw) (hl : J * pw + I < ps.length) (hx : x ≤ I) (hx2 : (I : Int) < x + qw) (hy : y ≤ J) (hy2 : (J : Int) < y + qh) :
    PartI ps qs pw qw qh x y (L.set (J * pw + I) (gt qs (((J : Int) - y).toNat * qw + ((I : Int) - x).toNat))) (J : Int) ((I : Int) + 1) := by
 have hdiv : rowN (J * pw + I) pw = J := by
  unfold rowN
  rw [Nat.add_comm, Nat.add_mul_div_right _ _ (by omega : 0 < pw), Nat.div_eq_of_lt hI, Nat.zero_add]
 have hmod : colN (J * pw + I) pw = I := by
  unfold colN
  rw [Nat.add_comm, Nat.add_mul_mod_self_right, Nat.mod_eq_of_lt hI]
 refine ⟨by rw [List.length_set]; exact h.1, fun n hn => ?_⟩
 rw [gt_set_eq _ _ _ _ (by rw [h.1]; exact hl)]
 by_cases hne : n = J * pw + I
 ·rw [if_pos hne, hne]
  rw [if_pos (by rw [hdiv, hmod]; exact .inr ⟨rfl, by omega⟩)]
  unfold pasteVal
  rw [hdiv, hmod, if_pos ⟨hx, hx2, hy, hy2⟩]
 ·rw [if_neg hne, h.2 n hn]
  have hn2 : pw * rowN n pw + colN n pw = n := Nat.div_add_mod n pw
  by_cases h1 : rowN n pw = J
  ·have h2 : colN n pw ≠ I := by
    intro h2
    rw [h1, h2, Nat.mul_comm] at hn2
    exact hne hn2.symm
   by_cases h3 : colN n pw < I
   ·rw [if_pos (.inr ⟨by omega, by omega⟩), if_pos (.inr ⟨by omega, by omega⟩)]
   ·rw [if_neg (by omega), if_neg (by omega)]
  ·by_cases h3 : rowN n pw < J
   ·rw [if_pos (.inl (by omega)), if_pos (.inl (by omega))]
   ·rw [if_neg (by omega), if_neg (by omega)]
end
theorem prod_small {a b : Nat} (ha : a ≤ 1024) (hb : b ≤ 1024) : a * b ≤ 1048576 := Nat.le_trans (Nat.mul_le_mul ha hb) (by decide)
def fl (qw e : Nat) : Nat := e * (qw + 4) + 3
theorem fl_succ (qw e : Nat) : fl qw (e + 1) = fl qw e + qw + 4 := by unfold fl; rw [Nat.succ_mul]; omega
theorem fl_ge (qw e : Nat) : 3 ≤ fl qw e := by unfold fl; omega
theorem paste_at {j i qw pw J I : Nat} {x y : Int} (hj : j ≤ 1024) (hi : i ≤ 1024) (hqw : qw ≤ 1024) (hpw : pw ≤ 1024) (hJm : J ≤ 1024) (hIm : I ≤ 1024) (hJ : y + (j : Int) = J) (hI : x + (i : Int) = I) (hx : -1048576 ≤ x) (hx2 : x ≤ 1048576) :
    wrap64 (wrap64 ((j : Int) * (qw : Int)) + (i : Int)) = ((j * qw + i : Nat) : Int) ∧ wrap64 (wrap64 (wrap64 (wrap64 (y + (j : Int)) * (pw : Int)) + x) + (i : Int)) = ((J * pw + I : Nat) : Int) := by
 have hqm : j * qw ≤ 1048576 := prod_small hj hqw
 have hpm : J * pw ≤ 1048576 := prod_small hJm hpw
 refine ⟨?_, ?_⟩
 ·rw [← Int.natCast_mul, w64n (by omega), add64 (by omega)]
 ·rw [hJ, w64n (n := J) (by omega), ← Int.natCast_mul, w64n (n := J * pw) (by omega), w64 (n := ((J * pw : Nat) : Int) + x) (by omega) (by omega), w64 (by omega) (by omega)]
  omega
theorem idx_lt {j i q h n : Nat} (hn : n = q * h) (hj : j < h) (hi : i < q) : j * q + i < n := by
 have := Nat.mul_le_mul (show j + 1 ≤ h from hj) (Nat.le_refl q)
 rw [Nat.succ_mul] at this
 rw [hn, Nat.mul_comm q h]
 omega
theorem paste_in {ps qs : List Nat} {pw ph qw qh e j J : Nat} {x y : Int} (hpw : 0 < pw) (hpw2 : pw ≤ 1024) (hph : ph ≤ 1024) (hqw : qw ≤ 1024) (hqh : qh ≤ 1024) (hps : ps.length = pw * ph) (hqs : qs.length = qw * qh) (hx : -1048576 ≤ x) (hx2 : x ≤ 1048576) (hJ : y + (j : Int) = J) (hjq : j < qh) (hJp : J < ph)
    (ih : ∀ (k : Nat) (L : List Nat), fl qw e ≤ k → PartJ ps qs pw qw qh x y L ((J : Int) + 1) → codec_paste.l0 k x y ((j + 1 : Nat) : Int) (pw : Int) (ph : Int) (ints L) (qw : Int) (qh : Int) (ints qs) = some (ints (pasteN ps qs pw qw qh x y))) :
    ∀ (d i k : Nat) (L : List Nat), qw ≤ i + d → fl qw e + d + 1 ≤ k → 0 ≤ x + i → i ≤ 4194304 → PartI ps qs pw qw qh x y L (J : Int) (x + i) →
     codec_paste.l1 k x y (j : Int) (i : Int) (pw : Int) (ph : Int) (ints L) (qw : Int) (qh : Int) (ints qs) = some (ints (pasteN ps qs pw qw qh x y)) := by
 intro d
 induction d with
 | zero =>
  intro i k L hi hk hxi him hP
  obtain ⟨k, rfl⟩ : ∃ k', k = k' + 1 := ⟨k - 1, by omega⟩
  unfold codec_paste.l1
  refine ifn (by omega) ?_
  rw [add641 (a := j) (by omega)]
  exact ih k L (by omega) (part_out hP hpw (.inl (by omega)))
 | succ d ihd =>
  intro i k L hi hk hxi him hP
  obtain ⟨k, rfl⟩ : ∃ k', k = k' + 1 := ⟨k - 1, by omega⟩
  unfold codec_paste.l1
  by_cases h3 : (i : Int) < qw
  ·refine ifp h3 ?_
   rw [w64 (n := x + (i : Int)) (by omega) (by omega)]
   by_cases h4 : x + (i : Int) < pw
   ·refine ifp h4 ?_
    obtain ⟨I, hI⟩ : ∃ I : Nat, x + (i : Int) = I := ⟨(x + (i : Int)).toNat, by omega⟩
    rw [hI] at hP h4
    have hiq : i < qw := by omega
    have hIp : I < pw := by omega
    have hq1 : j * qw + i < qs.length := idx_lt hqs hjq hiq
    have hp1 : J * pw + I < ps.length := idx_lt hps hJp hIp
    have hst := part_step hP hIp hp1 (by omega) (by omega) (by omega) (by omega)
    have e1 : ((J : Int) - y).toNat = j := by omega
    have e2 : ((I : Int) - x).toNat = i := by omega
    rw [e1, e2] at hst
    have hLl : (ints L).length = ps.length := by rw [ints_length]; exact hP.1
    have hql : (ints qs).length = qs.length := ints_length qs
    obtain ⟨eq1, ep1⟩ := paste_at (j := j) (i := i) (qw := qw) (pw := pw) (J := J) (I := I) (x := x) (y := y) (by omega) (by omega) hqw hpw2 (by omega) (by omega) hJ hI hx hx2
    rw [eq1, ep1]
    clear eq1 ep1 hps hqs hP
    generalize j * qw + i = n1 at *
    generalize J * pw + I = n2 at *
    refine ifp (by omega) (ifp (by omega) (ifp (by omega) (ifp (by omega) ?_)))
    rw [rd_ints, Int.toNat_natCast, ints_set, add641 (by omega)]
    exact ihd (i + 1) k _ (by omega) (by omega) (by omega) (by omega) (by rw [show x + ((i + 1 : Nat) : Int) = (I : Int) + 1 by omega]; exact hst)
   ·refine ifn h4 ?_
    rw [add641 (a := j) (by omega)]
    exact ih k L (by omega) (part_out hP hpw (.inr (by omega)))
  ·refine ifn h3 ?_
   rw [add641 (a := j) (by omega)]
   exact ih k L (by omega) (part_out hP hpw (.inl (by omega)))
theorem mx_neg (x : Int) (hx : -1048576 ≤ x) (hx2 : x ≤ 1048576) : ∃ i0 : Nat, mx 0 (wrap64 (-x)) = (i0 : Int) ∧ 0 ≤ x + i0 ∧ (x + i0 ≤ x ∨ x + i0 ≤ 0) ∧ i0 ≤ 1048576 := by
 rw [w64 (n := -x) (by omega) (by omega)]
 unfold mx
 split
 ·exact ⟨(-x).toNat, by omega, by omega, by omega, by omega⟩
 ·exact ⟨0, rfl, by omega, by omega, by omega⟩
theorem paste_l {ps qs : List Nat} {pw ph qw qh : Nat} {x y : Int} (hpw : 0 < pw) (hpw2 : pw ≤ 1024) (hph : ph ≤ 1024) (hqw : qw ≤ 1024) (hqh : qh ≤ 1024) (hps : ps.length = pw * ph) (hqs : qs.length = qw * qh) (hx : -1048576 ≤ x) (hx2 : x ≤ 1048576) (hy : -1048576 ≤ y) (hy2 : y ≤ 1048576) :
    ∀ (e j k : Nat) (L : List Nat), (qh ≤ j + e) → fl qw e ≤ k → 0 ≤ y + j → j ≤ 4194304 → PartJ ps qs pw qw qh x y L (y + j) →
     codec_paste.l0 k x y (j : Int) (pw : Int) (ph : Int) (ints L) (qw : Int) (qh : Int) (ints qs) = some (ints (pasteN ps qs pw qw qh x y)) := by
 intro e
 induction e with
 | zero =>
  intro j k L hj hk hyj hjm hP
  have hf := fl_ge qw 0
  obtain ⟨k, rfl⟩ : ∃ k', k = k' + 1 + 1 := ⟨k - 2, by omega⟩
  unfold codec_paste.l0
  refine ifn (by omega) ?_
  unfold codec_paste.j1
  refine ifn (by decide) ?_
  rw [part_end hP hpw hps (.inl (by omega))]
 | succ e ih =>
  intro j k L hj hk hyj hjm hP
  rw [fl_succ] at hk
  obtain ⟨k, rfl⟩ : ∃ k', k = k' + 1 + 1 := ⟨k - 2, by omega⟩
  unfold codec_paste.l0
  by_cases h1 : (j : Int) < qh
  ·refine ifp h1 ?_
   rw [w64 (n := y + (j : Int)) (by omega) (by omega)]
   unfold codec_paste.j1
   by_cases h2 : y + (j : Int) < ph
   ·refine ifp (decide_eq_true h2) ?_
    obtain ⟨J, hJ⟩ : ∃ J : Nat, y + (j : Int) = J := ⟨(y + (j : Int)).toNat, by omega⟩
    obtain ⟨i0, hi0, hi1, hi2, hi3⟩ := mx_neg x hx hx2
    rw [hi0]
    rw [hJ] at hP h2
    refine paste_in (e := e) hpw hpw2 hph hqw hqh hps hqs hx hx2 hJ (by omega) (by omega) ?_ qw i0 k L (by omega) (by omega) hi1 (by omega) (part_in hP hi2)
    intro k L hk hP
    exact ih (j + 1) k L (by omega) hk (by omega) (by omega) (by rw [show y + ((j + 1 : Nat) : Int) = (J : Int) + 1 by omega]; exact hP)
   ·refine ifn (by rw [decide_eq_false h2]; decide) ?_
    rw [part_end hP hpw hps (.inr (by omega))]
  ·refine ifn h1 ?_
   unfold codec_paste.j1
   refine ifn (by decide) ?_
   rw [part_end hP hpw hps (.inl (by omega))]
theorem paste_f {ps qs : List Nat} {pw ph qw qh : Nat} {x y : Int} (k : Nat) (hk : fl qw qh ≤ k) (hpw : 0 < pw) (hpw2 : pw ≤ 1024) (hph : ph ≤ 1024) (hqw : qw ≤ 1024) (hqh : qh ≤ 1024) (hps : ps.length = pw * ph) (hqs : qs.length = qw * qh) (hx : -1048576 ≤ x) (hx2 : x ≤ 1048576) (hy : -1048576 ≤ y) (hy2 : y ≤ 1048576) :
    codec_paste.f k (pw : Int) (ph : Int) (ints ps) (qw : Int) (qh : Int) (ints qs) x y = some (ints (pasteN ps qs pw qw qh x y)) := by
 unfold codec_paste.f
 obtain ⟨j0, hj0, hj1, hj2, hj3⟩ := mx_neg y hy hy2
 rw [hj0]
 exact paste_l hpw hpw2 hph hqw hqh hps hqs hx hx2 hy hy2 qh j0 k ps (by omega) hk hj1 (by omega) (part_begin hj2)
end Go.Proofs.Ytbbebhdcfopmmaa.A
end
section
set_option linter.unusedVariables false
set_option linter.unusedSimpArgs false
namespace Go.Proofs.Ytbbebhdcfopmmaa.A
open Go.RowKit Go.Proofs.YtbbebhdcfopmmaaW.PrintWords Go.Proofs.YtbbebhdcfopmmaaW.PrintLast Go.Proofs.YtbbebhdcfopmmaaW.PrintMore Go.Proofs.Ytbbebhdcfopmmaa.PCodecNames

section
variable {P : Program} {ops : Array Oper} {Q : Exit → Act → World → Prop}
/-- A call of a function value, by its contract. -/
theorem goesV_ {oi : Oper} {N : Option Tmp} {a : Act} {w : World} {K : Act → World → Prop} {f : FuncId} {fn : Func} {os : Array Operand} {ts : Array TypeId} {tm : Operand} {caps : Array Value} (hf : P.funcs[f]? = some fn) (hname : (fn.name == "runtime.NumGoroutine") = false) (hb : fn.body.isSome = true) (args : Array Value)
    (hw : Region.wanted oi (yielded ops a.tmps) = true) (hN : oi.dst = N) (hop : oi.op = .call { callee := .value tm, args := os, argTypes := ts }) (htm : a.eval tm = .func (.func f) #[] caps) (hargs : os.map a.eval = args)
    (h : Calls P f (args ++ caps) w fun e w' => ∃ v, e = .returned v ∧ K (a.put N v) w') : if Region.wanted oi (yielded ops a.tmps) = true then Oper.wp P oi a w K Q else K (a.put N undef) w := by
 refine call_ f (args ++ caps) hw hN ?_ h
 have he := enters_ hf hname hb (args ++ caps) w
 unfold execOp
 simp [hop, resolve, Deferred.ofValue, invoke, htm, hargs, he]
theorem make0_step {o : Oper} {N : Option Tmp} {a : Act} {W : World} {K : Act → World → Prop} (hw : Region.wanted o (yielded ops a.tmps) = true) (hN : o.dst = N) (t e : TypeId) (x y : Operand) (ho : o.op = .makeSlice t x y) (n : Nat) (hx : a.eval x = .int .i64 0) (hy : a.eval y = .int .i64 (n : Int))
    (ht : P.underlying t = some (.slice e)) (z : Value) (bytes : Nat) (hinfo : (P.info? e).map (fun i => (i.zero, i.size, i.bytes)) = some (some z, 1, bytes)) (hn : n ≤ 1048576) (hl : bytes * n ≤ 281474976710656)
    (h : ∀ g, g = W.heap.size → K (a.put N (.slice (some ⟨g, 0, none⟩) 0 n)) (W.alloc (.cells (madeCells z.cells n) e (0, 0)))) : if Region.wanted o (yielded ops a.tmps) = true then Oper.wp P o a W K Q else K (a.put N undef) W := by
 obtain ⟨i0, hi, hzz⟩ := Option.map_eq_some_iff.1 hinfo
 simp only [Prod.mk.injEq] at hzz
 obtain ⟨hz0, hz1, hz2⟩ := hzz
 have hr := run_make (P := P) W t e i0 z ht hi hz0 .i64 .i64 0 (n : Int) (by omega) (by omega) (by rw [hz2, ← Int.natCast_mul]; omega) (by omega)
 simp only [Int.toNat_natCast, hz1, Nat.mul_one] at hr
 refine value_ hw hN ?_ (h _ rfl)
 simp [execOp, ho, hx, hy, hr]
theorem alloc_step {o : Oper} {N : Option Tmp} {a : Act} {W : World} {K : Act → World → Prop} {cs : Array Value} {t : TypeId} (hw : Region.wanted o (yielded ops a.tmps) = true) (hN : o.dst = N)
    (hrun : (execOp a.eval o).run P W = .ok (.value (.pointer (some ⟨W.heap.size, 0, none⟩))) (W.alloc (.cells cs t (0, 0))))
    (h : ∀ g, g = W.heap.size → K (a.put N (.pointer (some ⟨g, 0, none⟩))) (W.alloc (.cells cs t (0, 0)))) : if Region.wanted o (yielded ops a.tmps) = true then Oper.wp P o a W K Q else K (a.put N undef) W := value_ hw hN hrun (h _ rfl)
theorem size_made (z : Array Value) (n : Nat) : (madeCells z n).size = n := size_madeCells z n
theorem R_made0 {k : IntKind} {w : World} {B g n : Nat} {e : TypeId} {cells : Array Value} (hb : w.heap[g]? = some (.cells cells e (0, 0))) (hg : B ≤ g) (hn : n ≤ 1048576) (hs : cells.size = n) : (nat k).R e w B (fun _ => True) (.slice (some ⟨g, 0, none⟩) 0 n) [] := by
 refine Kd.R_of_own ⟨rfl, .inr ⟨g, n, cells, rfl, hg, hb, Nat.zero_le _, ?_, by rw [hs, Nat.mul_one], ?_⟩⟩ (fun _ _ => trivial)
 ·simp only [maxLen]; omega
 ·rfl
end
/-- the grid of a function -/
def gridTo (F : Nat → Nat → Nat) (W n : Nat) : List Nat := (List.range n).map (fun i => F (i % W) (i / W))
theorem gridTo_succ (F : Nat → Nat → Nat) {W x y : Nat} (hx : x < W) : gridTo F W (y * W + x + 1) = gridTo F W (y * W + x) ++ [F x y] := by
 unfold gridTo
 rw [List.range_succ, List.map_append, List.map_singleton]
 have h1 : (y * W + x) % W = x := by rw [Nat.add_comm, Nat.add_mul_mod_self_right, Nat.mod_eq_of_lt hx]
 have h2 : (y * W + x) / W = y := by rw [Nat.add_comm, Nat.add_mul_div_right _ _ (by omega : 0 < W), Nat.div_eq_of_lt hx, Nat.zero_add]
 rw [h1, h2]
@[simp] theorem gridTo_length (F : Nat → Nat → Nat) (W n : Nat) : (gridTo F W n).length = n := by simp [gridTo]
/-- calls of a function value tell F at places -/
def Tells (f : FuncId) (caps : Array Value) (F : Nat → Nat → Nat) (W H : Nat) (w : World) : Prop :=
 ∀ w1, Below w.heap.size w w1 → ∀ x y : Nat, x < W → y < H → Calls Try.prog f (#[.int .i64 (x : Int), .int .i64 (y : Int)] ++ caps) w1 fun e w2 => e = .returned (.int .u32 ((F x y : Nat) : Int)) ∧ Below w1.heap.size w1 w2

def Mid (w : World) (gm gr W HH : Nat) (fv v0 : Value) (gp : Nat) (w1 : World) : Prop :=
 (nat .u32).R 24 w1 w.heap.size (fun _ => True) v0 [] ∧ w1.heap[gp]? = some (.cells #[.int .i64 0, .int .i64 0, .slice none 0 0] 31 (0, 0)) ∧ w1.heap[gm]? = some (.cells #[.int .i64 (W : Int), .int .i64 (HH : Int), fv] 137 (0, 0)) ∧ w1.heap[gr]? = some (.cells #[.int .i64 0, .int .i64 0, .slice none 0 0] 31 (0, 0)) ∧ Below w.heap.size w w1 ∧ (w.heap.size ≤ gp ∧ gp ≠ gr ∧ gp ≠ gm)
section
variable {w X : World} {gm gr W HH : Nat} {fv : Value}
theorem alloc_size (X : World) (o : Obj) : (X.alloc o).heap.size = X.heap.size + 1 := by
 have h := blk_lt (blk_new X (Obj.cells #[] 0 (0, 0)))
 simp
theorem part_fin1 {g9 g11 : Nat} (D1 : X.heap[gm]? = some (.cells #[.int .i64 (W : Int), .int .i64 (HH : Int), fv] 137 (0, 0))) (D2 : X.heap[gr]? = some (.cells #[.int .i64 0, .int .i64 0, .slice none 0 0] 31 (0, 0))) (DB : Below w.heap.size w X) (hn : W * HH ≤ 1048576)
    (h9 : g9 = X.heap.size) (h11 : g11 = (X.alloc (.cells (madeCells (Value.int .u32 0).cells (W * HH)) 24 (0, 0))).heap.size) :
    Mid w gm gr W HH fv (.slice (some ⟨g9, 0, none⟩) 0 (W * HH)) g11 ((X.alloc (.cells (madeCells (Value.int .u32 0).cells (W * HH)) 24 (0, 0))).alloc (.cells #[.int .i64 0, .int .i64 0, .slice none 0 0] 31 (0, 0))) := by
 have h1 := blk_lt D1
 have h2 := blk_lt D2
 have h3 := DB.size
 have h4 := h11
 rw [alloc_size] at h4
 refine ⟨by rw [h9]; exact Kd.R_alloc (R_made0 (blk_new X _) (by omega) hn (size_made _ _)) _, by rw [h11]; exact blk_new _ _, blk_alloc (blk_alloc D1 _) _, blk_alloc (blk_alloc D2 _) _, below_alloc (below_alloc DB _) _, ?_⟩
 omega
theorem part_fin2 {g9 g11 : Nat} (D1 : X.heap[gm]? = some (.cells #[.int .i64 (W : Int), .int .i64 (HH : Int), fv] 137 (0, 0))) (D2 : X.heap[gr]? = some (.cells #[.int .i64 0, .int .i64 0, .slice none 0 0] 31 (0, 0))) (DB : Below w.heap.size w X) (hn : W * HH ≤ 1048576)
    (h9 : g9 = (X.alloc (.cells #[.int .i64 0, .int .i64 0, .slice none 0 0] 31 (0, 0))).heap.size) (h11 : g11 = X.heap.size) :
    Mid w gm gr W HH fv (.slice (some ⟨g9, 0, none⟩) 0 (W * HH)) g11 ((X.alloc (.cells #[.int .i64 0, .int .i64 0, .slice none 0 0] 31 (0, 0))).alloc (.cells (madeCells (Value.int .u32 0).cells (W * HH)) 24 (0, 0))) := by
 have h1 := blk_lt D1
 have h2 := blk_lt D2
 have h3 := DB.size
 have h4 := h9
 rw [alloc_size] at h4
 refine ⟨by rw [h9]; exact R_made0 (blk_new _ _) (by rw [alloc_size]; omega) hn (size_made _ _), by rw [h11]; exact blk_alloc (blk_new _ _) _, blk_alloc (blk_alloc D1 _) _, blk_alloc (blk_alloc D2 _) _, below_alloc (below_alloc DB _) _, ?_⟩
 omega
end
theorem put3 {w3 w4 : World} {gp : Nat} {t : TypeId} {a b c x y z : Value} (hP : w3.heap[gp]? = some (.cells #[a, b, c] t (0, 0))) (h : w4 = ((w3.setCell ⟨gp, 0, none⟩ x).setCell ⟨gp, 1, none⟩ y).setCell ⟨gp, 2, none⟩ z) :
    w4.heap[gp]? = some (.cells #[x, y, z] t (0, 0)) ∧ (∀ k, k ≠ gp → w4.heap[k]? = w3.heap[k]?) ∧ (∀ B, B ≤ gp → Below B w3 w4) := by
 subst h
 refine ⟨(blk_set ((blk_set ((blk_set hP 0 x).trans rfl) 1 y).trans rfl) 2 z).trans rfl, fun k hk => ?_, fun B hB => ?_⟩
 ·exact (Below.heap_setCell _ _ _ k hk).trans ((Below.heap_setCell _ _ _ k hk).trans (Below.heap_setCell _ _ _ k hk))
 ·exact (((Below.refl B w3).setCell (p := ⟨gp, 0, none⟩) hB x).setCell (p := ⟨gp, 1, none⟩) hB y).setCell (p := ⟨gp, 2, none⟩) hB z
theorem grid_le {x y W HH : Nat} (hy : y < HH) (hx : x < W) : y * W + x < W * HH := idx_lt rfl hy hx
def MI (w : World) (gm gr gp W HH : Nat) (fv : Value) (w1 : World) (xs : List Nat) (A : Option Addr) (c : Nat) : Prop :=
 (nat .u32).R 24 w1 w.heap.size (fun _ => True) (.slice A xs.length c) xs ∧ w1.heap[gp]? = some (.cells #[.int .i64 (W : Int), .int .i64 (HH : Int), .slice A xs.length c] 31 (0, 0)) ∧ w1.heap[gm]? = some (.cells #[.int .i64 (W : Int), .int .i64 (HH : Int), fv] 137 (0, 0)) ∧ w1.heap[gr]? = some (.cells #[.int .i64 0, .int .i64 0, .slice none 0 0] 31 (0, 0)) ∧ Below w.heap.size w w1
theorem below_lift {w w1 : World} (h : Below w.heap.size w w1) : Below w.heap.size w w1 := h
set_option maxHeartbeats 4000000 in
set_option maxRecDepth 100000 in
theorem made_calls (f : FuncId) (fn : Func) (caps : Array Value) (F : Nat → Nat → Nat) (W HH : Nat) (w : World) (hf : Try.prog.funcs[f]? = some fn) (hname : (fn.name == "runtime.NumGoroutine") = false) (hbody : fn.body.isSome = true) (hWH : W * HH ≤ 1048576) (hW : W ≤ 1048576) (hH : HH ≤ 1048576) (hF : Tells f caps F W HH w) :
    Calls Try.prog 88 #[.agg #[.int .i64 (W : Int), .int .i64 (HH : Int), .func (.func f) #[] caps]] w fun e w' => ∃ v, e = .returned (.agg #[.int .i64 (W : Int), .int .i64 (HH : Int), v]) ∧ (nat .u32).R 24 w' w.heap.size (fun _ => True) v (gridTo F W (W * HH)) ∧ Below w.heap.size w w' := by
 have HF := Aside0.mk hF
 clear hF
 obtain ⟨fv, hfv⟩ : ∃ fv : Value, fv = .func (.func f) #[] caps := ⟨_, rfl⟩
 have hWH4 : 4 * (W * HH) ≤ 281474976710656 := by omega
 have hmul : IntKind.i64.wrap ((W : Int) * (HH : Int)) = ((W * HH : Nat) : Int) := by rw [← Int.natCast_mul]; simp only [IntKind.wrap_i64]; omega
 have hmul2 : wrap64 ((W : Int) * (HH : Int)) = ((W * HH : Nat) : Int) := by rw [← Int.natCast_mul]; exact w64n (by omega)
 obtain ⟨xs0, hxs0⟩ : ∃ xs0 : List Nat, xs0 = [] := ⟨_, rfl⟩
 rw [← hfv]
 have HFV := Aside0.mk hfv
 have HX0 := Aside0.mk hxs0
 clear hfv hxs0
 have hu31 := Try.underlying31
 go_enter Try.func88, Try.ntmps88
 go_wp2_with (first | ((with_reducible refine gate_dst (N := 1) rfl ?_); refine box_event ?hg (N := 1) ?hd (cs := #[.int .i64 (W : Int), .int .i64 (HH : Int), fv]) (t := 137) ?hr ?_; (case hd => rfl); (case hg => rfl); (case hr => first | (go_simp; done) | (go_simp; rfl)); intro gm hgm w1 hm1 hb1; have HM1 := Aside0.mk hm1; have HB1 := Aside0.mk hb1; have GM := Aside0.mk hgm; clear hm1 hb1 hgm) | ((with_reducible refine gate_dst (N := 2) rfl ?_); refine box_event ?hg (N := 2) ?hd (cs := #[.int .i64 0, .int .i64 0, .slice none 0 0]) (t := 31) ?hr ?_; (case hd => rfl); (case hg => rfl); (case hr => first | (go_simp; done) | (go_simp; rfl)); intro gr hgr w2 hm2 hb2; have HM2 := Aside0.mk (blk_below HM1.out hb2); have HR2 := Aside0.mk hm2; have HB2 := Aside0.mk (below_step HB1.out hb2); have GR := Aside0.mk (show w.heap.size ≤ gr by rw [hgr]; exact below_size HB1.out); clear hm2 hb2 hgr))
 have D1 := Aside0.mk (blk_drew HM2.out)
 have D2 := Aside0.mk (blk_drew HR2.out)
 have DB : Aside0 (Below w.heap.size w w2.drew) := ⟨below_drew1 HB2.out⟩
 clear HM2 HR2 HB2
 refine start_ (n := 13) (S := fun w' => w'.cell? ⟨gm, 0, none⟩ = some (.int .i64 (W : Int)) ∧ w'.cell? ⟨gm, 1, none⟩ = some (.int .i64 (HH : Int))) (ds := [12]) #[ff_,ff_,ff_,ff_,ff_,ff_,ff_,ff_,ff_,ff_,ff_,ff_,ff_] (by kernel_rfl) rfl rfl ⟨(blk_cell D1.out 0).trans rfl, (blk_cell D1.out 1).trans rfl⟩ (fun hHeld => ?_)
 generalize w2.drew = wd at *
 refine pure_ (i := 0) (N := some 6) (v := ?_) (a' := ?_) #[tt_,ff_,ff_,ff_,ff_,ff_,ff_,ff_,ff_,ff_,ff_,ff_,ff_] rfl rfl (by kernel_rfl) (fun _ _ _ h => h) (Or.inl ⟨by rfl, ?_⟩) ?_ ?_
 rotate_left
 ·intro w'
  go_simp
  with_reducible rfl
 rotate_left
 ·simp only [Act.put, List.setIfInBounds_toArray, List.set_cons_zero, List.set_cons_succ, i64_w, i32_w]
  rfl
 refine pure_ (i := 2) (N := some 8) (v := ?_) (a' := ?_) #[tt_,ff_,tt_,ff_,ff_,ff_,ff_,ff_,ff_,ff_,ff_,ff_,ff_] rfl rfl (by kernel_rfl) (fun _ _ _ h => h) (Or.inl ⟨by rfl, ?_⟩) ?_ ?_
 rotate_left
 ·intro w'
  go_simp
  with_reducible rfl
 rotate_left
 ·simp only [Act.put, List.setIfInBounds_toArray, List.set_cons_zero, List.set_cons_succ, i64_w, i32_w]
  rfl
 refine pure_ (i := 4) (N := some 10) (v := ?_) (a' := ?_) #[tt_,ff_,tt_,ff_,tt_,ff_,ff_,ff_,ff_,ff_,ff_,ff_,ff_] rfl rfl (by kernel_rfl) (fun _ _ _ h => h) (Or.inl ⟨by rfl, ?_⟩) ?_ ?_
 rotate_left
 ·intro w'
  go_simp
  with_reducible rfl
 rotate_left
 ·simp only [Act.put, List.setIfInBounds_toArray, List.set_cons_zero, List.set_cons_succ, i64_w, i32_w]
  rfl
 refine pure_ (i := 6) (N := some 12) (v := ?_) (a' := ?_) #[tt_,ff_,tt_,ff_,tt_,ff_,tt_,ff_,ff_,ff_,ff_,ff_,ff_] rfl rfl (by kernel_rfl) (fun _ _ _ h => h) (Or.inl ⟨by rfl, ?_⟩) ?_ ?_
 rotate_left
 ·intro w'
  go_simp
  with_reducible rfl
 rotate_left
 ·simp only [Act.put, List.setIfInBounds_toArray, List.set_cons_zero, List.set_cons_succ, i64_w, i32_w]
  rfl
 refine take_ (i := 1) (N := some 7) (v := ?_) (a' := ?_) #[tt_,tt_,tt_,ff_,tt_,ff_,tt_,ff_,ff_,ff_,ff_,ff_,ff_] rfl rfl (by kernel_rfl) (fun _ _ _ h => h) (Or.inl ⟨by rfl, ?_⟩) hHeld ?_ ?_
 rotate_left
 ·rintro w' ⟨s0, s1⟩
  go_simp
  with_reducible rfl
 rotate_left
 ·simp only [Act.put, List.setIfInBounds_toArray, List.set_cons_zero, List.set_cons_succ, i64_w, i32_w]
  rfl
 refine take_ (i := 3) (N := some 9) (v := ?_) (a' := ?_) #[tt_,tt_,tt_,tt_,tt_,ff_,tt_,ff_,ff_,ff_,ff_,ff_,ff_] rfl rfl (by kernel_rfl) (fun _ _ _ h => h) (Or.inl ⟨by rfl, ?_⟩) hHeld ?_ ?_
 rotate_left
 ·rintro w' ⟨s0, s1⟩
  go_simp
  with_reducible rfl
 rotate_left
 ·simp only [Act.put, List.setIfInBounds_toArray, List.set_cons_zero, List.set_cons_succ, i64_w, i32_w]
  rfl
 refine take_ (i := 5) (N := some 11) (v := ?_) (a' := ?_) #[tt_,tt_,tt_,tt_,tt_,tt_,tt_,ff_,ff_,ff_,ff_,ff_,ff_] rfl rfl (by kernel_rfl) (fun _ _ _ h => h) (Or.inl ⟨by rfl, ?_⟩) hHeld ?_ ?_
 rotate_left
 ·rintro w' ⟨s0, s1⟩
  go_simp
  with_reducible rfl
 rotate_left
 ·simp only [Act.put, List.setIfInBounds_toArray, List.set_cons_zero, List.set_cons_succ, i64_w, i32_w]
  rfl
 refine take_ (i := 7) (N := some 13) (v := ?_) (a' := ?_) #[tt_,tt_,tt_,tt_,tt_,tt_,tt_,tt_,ff_,ff_,ff_,ff_,ff_] rfl rfl (by kernel_rfl) (fun _ _ _ h => h) (Or.inl ⟨by rfl, ?_⟩) hHeld ?_ ?_
 rotate_left
 ·rintro w' ⟨s0, s1⟩
  go_simp
  with_reducible rfl
 rotate_left
 ·simp only [Act.put, List.setIfInBounds_toArray, List.set_cons_zero, List.set_cons_succ, i64_w, i32_w]
  rfl
 refine pure_ (i := 8) (N := some 14) (v := ?_) (a' := ?_) #[tt_,tt_,tt_,tt_,tt_,tt_,tt_,tt_,tt_,ff_,ff_,ff_,ff_] rfl rfl (by kernel_rfl) (fun _ _ _ h => h) (Or.inl ⟨by rfl, ?_⟩) ?_ ?_
 rotate_left
 ·intro w'
  go_simp
  with_reducible rfl
 rotate_left
 ·simp only [Act.put, List.setIfInBounds_toArray, List.set_cons_zero, List.set_cons_succ, i64_w, i32_w]
  rfl
 refine join_ (σ := Value × Nat) 1 #[tt_,tt_,tt_,tt_,tt_,tt_,tt_,tt_,tt_,tt_,tt_,tt_,ff_] (fun s => [(15, s.1), (16, .agg #[.int .i64 (W : Int), .int .i64 (HH : Int), s.1]), (3, .pointer (some ⟨s.2, 0, none⟩))]) (fun s w' => Mid w gm gr W HH fv s.1 s.2 w') ?_ ?_
 rotate_left
 ·intro hCont
  refine two_ (i := 9) (j := 11) (Ni := some 15) (Nj := some 3) #[tt_,tt_,tt_,tt_,tt_,tt_,tt_,tt_,tt_,tt_,ff_,ff_,ff_] #[tt_,tt_,tt_,tt_,tt_,tt_,tt_,tt_,tt_,ff_,ff_,tt_,ff_] rfl rfl rfl rfl (by kernel_rfl) (by decide) (by decide) (fun K hK => ?_) (fun K hK => ?_)
  ·skip
   refine make0_step (by rfl) rfl 29 24 _ _ rfl (W * HH) (by rfl) (by first | rfl | exact hmul) Try.underlying29 (.int .u32 0) 4 info24 hWH hWH4 ?_
   intro g9 hg9
   have Hg9 := Aside0.mk hg9
   clear hg9
   refine hK.out _ _ ⟨(blk_cell (blk_alloc D1.out _) 0).trans rfl, (blk_cell (blk_alloc D1.out _) 1).trans rfl⟩ (fun hHeld => ?_)
   clear hK K
   refine norm_ (a' := ?_) ?_ ?_
   rotate_left
   ·show Act.put _ (some 15) _ = _
    simp only [Act.put, List.setIfInBounds_toArray, List.set_cons_zero, List.set_cons_succ, i64_w, i32_w]
    rfl
   refine pure_ (i := 10) (N := some 16) (v := ?_) (a' := ?_) #[tt_,tt_,tt_,tt_,tt_,tt_,tt_,tt_,tt_,tt_,tt_,ff_,ff_] rfl rfl (by kernel_rfl) (fun _ _ _ h => h) (Or.inl ⟨by rfl, ?_⟩) ?_ ?_
   rotate_left
   ·intro w'
    go_simp
    with_reducible rfl
   rotate_left
   ·simp only [Act.put, List.setIfInBounds_toArray, List.set_cons_zero, List.set_cons_succ, i64_w, i32_w]
    rfl
   refine one_ (i := 11) (N := some 3) #[tt_,tt_,tt_,tt_,tt_,tt_,tt_,tt_,tt_,tt_,tt_,tt_,ff_] rfl rfl (by kernel_rfl) (by decide) (fun K hK => ?_)
   refine alloc_step (cs := #[.int .i64 0, .int .i64 0, .slice none 0 0]) (t := 31) (by rfl) rfl (by first | (go_simp; done) | (go_simp; rfl)) ?_
   intro g11 hg11
   have Hg11 := Aside0.mk hg11
   clear hg11
   refine hK.out _ _ ⟨(blk_cell (blk_alloc (blk_alloc D1.out _) _) 0).trans rfl, (blk_cell (blk_alloc (blk_alloc D1.out _) _) 1).trans rfl⟩ (fun hHeld => ?_)
   clear hK K
   refine norm_ (a' := ?_) ?_ ?_
   rotate_left
   ·show Act.put _ (some 3) _ = _
    simp only [Act.put, List.setIfInBounds_toArray, List.set_cons_zero, List.set_cons_succ, i64_w, i32_w]
    rfl
   exact norm_ (by rfl) (hCont (.slice (some ⟨g9, 0, none⟩) 0 (W * HH), g11) _ (part_fin1 D1.out D2.out DB.out hWH Hg9.out Hg11.out))
  ·skip
   refine alloc_step (cs := #[.int .i64 0, .int .i64 0, .slice none 0 0]) (t := 31) (by rfl) rfl (by first | (go_simp; done) | (go_simp; rfl)) ?_
   intro g11 hg11
   have Hg11 := Aside0.mk hg11
   clear hg11
   refine hK.out _ _ ⟨(blk_cell (blk_alloc D1.out _) 0).trans rfl, (blk_cell (blk_alloc D1.out _) 1).trans rfl⟩ (fun hHeld => ?_)
   clear hK K
   refine norm_ (a' := ?_) ?_ ?_
   rotate_left
   ·show Act.put _ (some 3) _ = _
    simp only [Act.put, List.setIfInBounds_toArray, List.set_cons_zero, List.set_cons_succ, i64_w, i32_w]
    rfl
   refine one_ (i := 9) (N := some 15) #[tt_,tt_,tt_,tt_,tt_,tt_,tt_,tt_,tt_,tt_,ff_,tt_,ff_] rfl rfl (by kernel_rfl) (by decide) (fun K hK => ?_)
   refine make0_step (by rfl) rfl 29 24 _ _ rfl (W * HH) (by rfl) (by first | rfl | exact hmul) Try.underlying29 (.int .u32 0) 4 info24 hWH hWH4 ?_
   intro g9 hg9
   have Hg9 := Aside0.mk hg9
   clear hg9
   refine hK.out _ _ ⟨(blk_cell (blk_alloc (blk_alloc D1.out _) _) 0).trans rfl, (blk_cell (blk_alloc (blk_alloc D1.out _) _) 1).trans rfl⟩ (fun hHeld => ?_)
   clear hK K
   refine norm_ (a' := ?_) ?_ ?_
   rotate_left
   ·show Act.put _ (some 15) _ = _
    simp only [Act.put, List.setIfInBounds_toArray, List.set_cons_zero, List.set_cons_succ, i64_w, i32_w]
    rfl
   refine pure_ (i := 10) (N := some 16) (v := ?_) (a' := ?_) #[tt_,tt_,tt_,tt_,tt_,tt_,tt_,tt_,tt_,tt_,tt_,tt_,ff_] rfl rfl (by kernel_rfl) (fun _ _ _ h => h) (Or.inl ⟨by rfl, ?_⟩) ?_ ?_
   rotate_left
   ·intro w'
    go_simp
    with_reducible rfl
   rotate_left
   ·simp only [Act.put, List.setIfInBounds_toArray, List.set_cons_zero, List.set_cons_succ, i64_w, i32_w]
    rfl
   exact norm_ (by rfl) (hCont (.slice (some ⟨g9, 0, none⟩) 0 (W * HH), g11) _ (part_fin2 D1.out D2.out DB.out hWH Hg9.out Hg11.out))
 rintro ⟨v0, gp⟩ w3 hMid
 obtain ⟨hR3, hP3, hM3, hG3, hB3, hpr⟩ := hMid
 simp only at hR3 hP3 hpr
 rw [← HX0.out] at hR3
 obtain ⟨A0, c0, rfl⟩ := Kd.R_slice hR3
 have R3 := Aside0.mk hR3
 have P3 := Aside0.mk hP3
 have M3 := Aside0.mk hM3
 have G3 := Aside0.mk hG3
 have B3 := Aside0.mk hB3
 have PR3 := Aside0.mk hpr
 have hHeld : w3.cell? ⟨gm, 0, none⟩ = some (.int .i64 (W : Int)) ∧ w3.cell? ⟨gm, 1, none⟩ = some (.int .i64 (HH : Int)) := ⟨(blk_cell M3.out 0).trans rfl, (blk_cell M3.out 1).trans rfl⟩
 have p0 := (blk_cell P3.out 0).trans rfl
 have p1 := (blk_cell P3.out 1).trans rfl
 have p2 := (blk_cell P3.out 2).trans rfl
 have f0 := blk_frozen P3.out 0
 have f1 := blk_frozen P3.out 1
 have f2 := blk_frozen P3.out 2
 clear hR3 hP3 hM3 hG3 hB3 hpr
 refine norm_ (a' := ?_) ?_ ?_
 rotate_left
 ·simp only [YtbbebhdcfopmmaaW.PrintLast.putAll, Act.put, List.setIfInBounds_toArray, List.set_cons_zero, List.set_cons_succ]
  rfl
 refine last_ (i := 12) (N := none) #[tt_,tt_,tt_,tt_,tt_,tt_,tt_,tt_,tt_,tt_,tt_,tt_,tt_] rfl rfl (by kernel_rfl) (by decide) (fun K hK => ?_)
 refine skip_ (w1 := ?_) (by rfl) rfl ?_ ?_
 rotate_left
 ·go_simp
  rfl
 refine hK.out _ _ ?_
 clear hK K
 refine done_ (by kernel_rfl) ?_
 obtain ⟨w4, hw4⟩ : ∃ w4, w4 = ((w3.setCell ⟨gp, 0, none⟩ (.int .i64 (W : Int))).setCell ⟨gp, 1, none⟩ (.int .i64 (HH : Int))).setCell ⟨gp, 2, none⟩ (.slice A0 xs0.length c0) := ⟨_, rfl⟩
 rw [← hw4]
 obtain ⟨hP4, hst4, hbl4⟩ := put3 P3.out hw4
 have MI4 : Aside0 (MI w gm gr gp W HH fv w4 xs0 A0 c0) := ⟨Kd.R_mono (Kd.R_move (Kd.R_types R3.out P3.out (by decide)) (fun k hk => hst4 k hk.2)) (fun _ _ => trivial), hP4, (hst4 gm (fun h => PR3.out.2.2 h.symm)).trans M3.out, (hst4 gr (fun h => PR3.out.2.1 h.symm)).trans G3.out, B3.out.trans (hbl4 _ PR3.out.1)⟩
 clear hw4 hP4 hst4 hbl4 p0 p1 p2 f0 f1 f2 hHeld R3 P3 M3 G3 B3 D1 D2 DB
 have z1 := (blk_cell MI4.out.2.2.1 1).trans rfl
 go_wp2
 clear z1
 go_loopw [19] (fun v wr => ∃ (y : Nat) (xs : List Nat) (A : Option Addr) (c : Nat), y ≤ HH ∧ v = .int .i64 (y : Int) ∧ Aside0 (xs = gridTo F W (y * W)) ∧ Aside0 (MI w gm gr gp W HH fv wr xs A c)) (fun v _ => HH - (intOf v).toNat)
 case atStart => exact ⟨0, xs0, A0, c0, Nat.zero_le _, rfl, ⟨by rw [HX0.out]; simp [gridTo]⟩, MI4⟩
 case round =>
  obtain ⟨y, xsy, Ay, cy, hy, rfl, HXY, HI⟩ := hrel
  by_cases hlt : y < HH
  ·have c1 : decide ((y : Int) < (HH : Int)) = true := decide_eq_true (by omega)
   have z0 := (blk_cell HI.out.2.2.1 0).trans rfl
   go_wp2
   clear z0
   go_loopw [24] (fun v wr2 => ∃ (x : Nat) (xs : List Nat) (A : Option Addr) (c : Nat), x ≤ W ∧ v = .int .i64 (x : Int) ∧ Aside0 (xs = gridTo F W (y * W + x)) ∧ Aside0 (MI w gm gr gp W HH fv wr2 xs A c)) (fun v _ => W - (intOf v).toNat)
   case atStart => exact ⟨0, xsy, Ay, cy, Nat.zero_le _, rfl, HXY, HI⟩
   case round =>
    clear HI HXY MI4
    obtain ⟨x, xs, A0, c0, hx, rfl, HX, HI⟩ := hrel
    by_cases hxl : x < W
    ·have c2 : decide ((x : Int) < (W : Int)) = true := decide_eq_true (by omega)
     go_wp2
     obtain ⟨hR, hP, hM, hG, hB⟩ := HI.out
     have R8 := Aside0.mk (Kd.R_drew hR)
     have P8 := Aside0.mk (blk_drew hP)
     have M8 : Aside0 (wr.drew.heap[gm]? = some (.cells #[.int .i64 (W : Int), .int .i64 (HH : Int), .func (.func f) #[] caps] 137 (0, 0))) := ⟨by rw [← HFV.out]; exact blk_drew hM⟩
     have G8 := Aside0.mk (blk_drew hG)
     have B8 := Aside0.mk (below_drew1 hB)
     have HL4 : Aside0 ((xs.length + 1) * 4 ≤ 140737488355328) := ⟨by rw [HX.out, gridTo_length]; have := grid_le hlt hxl; omega⟩
     obtain ⟨xs', hxs'⟩ : ∃ xs' : List Nat, xs' = xs ++ [F x y] := ⟨_, rfl⟩
     have HXS := Aside0.mk hxs'
     clear hxs' hR hP hM hG hB HI
     refine start_ (n := 11) (S := fun w' => w'.cell? ⟨gp, 2, none⟩ = some (.slice A0 xs.length c0) ∧ w'.cell? ⟨gm, 2, none⟩ = some (.func (.func f) #[] caps)) (ds := [10]) #[ff_,ff_,ff_,ff_,ff_,ff_,ff_,ff_,ff_,ff_,ff_] (by kernel_rfl) rfl rfl ⟨(blk_cell P8.out 2).trans rfl, (blk_cell M8.out 2).trans rfl⟩ (fun hHeld => ?_)
     refine pure_ (i := 0) (N := some 27) (v := ?_) (a' := ?_) #[tt_,ff_,ff_,ff_,ff_,ff_,ff_,ff_,ff_,ff_,ff_] rfl rfl (by kernel_rfl) (fun _ _ _ h => h) (Or.inl ⟨by rfl, ?_⟩) ?_ ?_
     rotate_left
     ·intro w'
      go_simp
      with_reducible rfl
     rotate_left
     ·simp only [Act.put, List.setIfInBounds_toArray, List.set_cons_zero, List.set_cons_succ, i64_w, i32_w]
      rfl
     refine pure_ (i := 2) (N := some 29) (v := ?_) (a' := ?_) #[tt_,ff_,tt_,ff_,ff_,ff_,ff_,ff_,ff_,ff_,ff_] rfl rfl (by kernel_rfl) (fun _ _ _ h => h) (Or.inl ⟨by rfl, ?_⟩) ?_ ?_
     rotate_left
     ·intro w'
      go_simp
      with_reducible rfl
     rotate_left
     ·simp only [Act.put, List.setIfInBounds_toArray, List.set_cons_zero, List.set_cons_succ, i64_w, i32_w]
      rfl
     refine pure_ (i := 4) (N := some 31) (v := ?_) (a' := ?_) #[tt_,ff_,tt_,ff_,tt_,ff_,ff_,ff_,ff_,ff_,ff_] rfl rfl (by kernel_rfl) (fun _ _ _ h => h) (Or.inl ⟨by rfl, ?_⟩) ?_ ?_
     rotate_left
     ·intro w'
      go_simp
      with_reducible rfl
     rotate_left
     ·simp only [Act.put, List.setIfInBounds_toArray, List.set_cons_zero, List.set_cons_succ, i64_w, i32_w]
      rfl
     refine pure_ (i := 5) (N := some 32) (v := ?_) (a' := ?_) #[tt_,ff_,tt_,ff_,tt_,tt_,ff_,ff_,ff_,ff_,ff_] rfl rfl (by kernel_rfl) (fun _ _ _ h => h) (Or.inl ⟨by rfl, ?_⟩) ?_ ?_
     rotate_left
     ·intro w'
      go_simp
      with_reducible rfl
     rotate_left
     ·simp only [Act.put, List.setIfInBounds_toArray, List.set_cons_zero, List.set_cons_succ, i64_w, i32_w]
      rfl
     refine take_ (i := 1) (N := some 28) (v := ?_) (a' := ?_) #[tt_,tt_,tt_,ff_,tt_,tt_,ff_,ff_,ff_,ff_,ff_] rfl rfl (by kernel_rfl) (fun _ _ _ h => h) (Or.inl ⟨by rfl, ?_⟩) hHeld ?_ ?_
     rotate_left
     ·rintro w' ⟨s0, s1⟩
      go_simp
      with_reducible rfl
     rotate_left
     ·simp only [Act.put, List.setIfInBounds_toArray, List.set_cons_zero, List.set_cons_succ, i64_w, i32_w]
      rfl
     refine take_ (i := 3) (N := some 30) (v := ?_) (a' := ?_) #[tt_,tt_,tt_,tt_,tt_,tt_,ff_,ff_,ff_,ff_,ff_] rfl rfl (by kernel_rfl) (fun _ _ _ h => h) (Or.inl ⟨by rfl, ?_⟩) hHeld ?_ ?_
     rotate_left
     ·rintro w' ⟨s0, s1⟩
      go_simp
      with_reducible rfl
     rotate_left
     ·simp only [Act.put, List.setIfInBounds_toArray, List.set_cons_zero, List.set_cons_succ, i64_w, i32_w]
      rfl
     refine one_ (i := 6) (N := some 33) #[tt_,tt_,tt_,tt_,tt_,tt_,tt_,ff_,ff_,ff_,ff_] rfl rfl (by kernel_rfl) (by decide) (fun K hK => ?_)
     refine goesV_ hf hname hbody #[.int .i64 (x : Int), .int .i64 (y : Int)] (by rfl) rfl rfl (by rfl) (by (try simp only [List.map_toArray, List.map_cons, List.map_nil]); rfl) ?_
     refine (HF.out _ (below_lift B8.out) x y hxl hlt).mono ?_
     rintro e w9 ⟨rfl, hb9⟩
     refine ⟨_, rfl, ?_⟩
     have P9 := Aside0.mk (blk_below P8.out hb9)
     have M9 := Aside0.mk (blk_below M8.out hb9)
     have G9 := Aside0.mk (blk_below G8.out hb9)
     have R9 := Aside0.mk (Kd.R_below R8.out hb9)
     have B9 := Aside0.mk (below_step B8.out hb9)
     clear hb9
     refine hK.out _ _ ⟨(blk_cell P9.out 2).trans rfl, (blk_cell M9.out 2).trans rfl⟩ (fun hHeld => ?_)
     clear hK K
     refine norm_ (a' := ?_) ?_ ?_
     rotate_left
     ·show Act.put _ (some 33) _ = _
      simp only [Act.put, List.setIfInBounds_toArray, List.set_cons_zero, List.set_cons_succ, i64_w, i32_w]
      rfl
     refine one_ (i := 7) (N := some 34) #[tt_,tt_,tt_,tt_,tt_,tt_,tt_,tt_,ff_,ff_,ff_] rfl rfl (by kernel_rfl) (by decide) (fun K hK => ?_)
     refine value_ (w1 := ?_) (v := ?_) (by rfl) rfl ?_ ?_
     rotate_left 2
     ·go_simp
      constructor
      ·rfl
      ·rfl
     refine hK.out _ _ ⟨(blk_cell (blk_alloc P9.out _) 2).trans rfl, (blk_cell (blk_alloc M9.out _) 2).trans rfl⟩ (fun hHeld => ?_)
     clear hK K
     refine norm_ (a' := ?_) ?_ ?_
     rotate_left
     ·show Act.put _ (some 34) _ = _
      simp only [Act.put, List.setIfInBounds_toArray, List.set_cons_zero, List.set_cons_succ, i64_w, i32_w]
      rfl
     refine one_ (i := 8) (N := some 35) #[tt_,tt_,tt_,tt_,tt_,tt_,tt_,tt_,tt_,ff_,ff_] rfl rfl (by kernel_rfl) (by decide) (fun K hK => ?_)
     refine Kd.R_append_step (nat .u32) (w0 := _) w.heap.size (by rfl) (.tmp 28) (.tmp 34) 29 24 (.int .u32 0) 4 rfl Try.underlying29 info24 rfl (by decide) (by decide) (.slice A0 xs.length c0) xs (F x y) [.int .u32 ((F x y : Nat) : Int)] (fun _ => True) (fun _ => False) rfl rfl ?aP (fun _ hk => hk.elim) (fun _ _ => trivial) (R9.out) (B9.out) ?aS ?aL ?_
     (case aP => exact rfl)
     (case aS => exact below_size B9.out)
     (case aL => exact HL4.out)
     intro v7 w7 hR7 hB7 hg7 hat7
     rw [← HXS.out] at hR7
     obtain ⟨A7, c7, rfl⟩ := Kd.R_slice hR7
     have R7 := Aside0.mk hR7
     have B7 := Aside0.mk hB7
     have P7 := Aside0.mk (blk_grown P9.out hg7 (Kd.R_ne R9.out P9.out (by decide)))
     have M7 := Aside0.mk (blk_grown M9.out hg7 (Kd.R_ne R9.out M9.out (by decide)))
     have G7 := Aside0.mk (blk_grown G9.out hg7 (Kd.R_ne R9.out G9.out (by decide)))
     have q2 := (blk_cell P7.out 2).trans rfl
     have fr2 := blk_frozen P7.out 2
     clear hR7 hB7 hg7 hat7
     refine hK.out _ _ ⟨(blk_cell P7.out 2).trans rfl, (blk_cell M7.out 2).trans rfl⟩ (fun hHeld => ?_)
     clear hK K
     refine norm_ (a' := ?_) ?_ ?_
     rotate_left
     ·show Act.put _ (some 35) _ = _
      simp only [Act.put, List.setIfInBounds_toArray, List.set_cons_zero, List.set_cons_succ, i64_w, i32_w]
      rfl
     refine pure_ (i := 9) (N := some 36) (v := ?_) (a' := ?_) #[tt_,tt_,tt_,tt_,tt_,tt_,tt_,tt_,tt_,tt_,ff_] rfl rfl (by kernel_rfl) (fun _ _ _ h => h) (Or.inl ⟨by rfl, ?_⟩) ?_ ?_
     rotate_left
     ·intro w'
      go_simp
      with_reducible rfl
     rotate_left
     ·simp only [Act.put, List.setIfInBounds_toArray, List.set_cons_zero, List.set_cons_succ, i64_w, i32_w]
      rfl
     refine last_ (i := 10) (N := none) #[tt_,tt_,tt_,tt_,tt_,tt_,tt_,tt_,tt_,tt_,tt_] rfl rfl (by kernel_rfl) (by decide) (fun K hK => ?_)
     refine skip_ (w1 := ?_) (by rfl) rfl ?_ ?_
     rotate_left
     ·go_simp
      rfl
     refine hK.out _ _ ?_
     clear hK K
     refine done_ (by kernel_rfl) ?_
     obtain ⟨w10, hw10⟩ : ∃ w10, w10 = w7.setCell ⟨gp, 2, none⟩ (.slice A7 xs'.length c7) := ⟨_, rfl⟩
     rw [← hw10]
     have P10 : w10.heap[gp]? = some (.cells #[.int .i64 (W : Int), .int .i64 (HH : Int), .slice A7 xs'.length c7] 31 (0, 0)) := by rw [hw10]; exact (blk_set P7.out 2 _).trans rfl
     have st10 : ∀ k, k ≠ gp → w10.heap[k]? = w7.heap[k]? := by rw [hw10]; exact fun k hk => Below.heap_setCell _ _ _ k hk
     have R10 : (nat .u32).R 24 w10 w.heap.size (fun _ => True) (.slice A7 xs'.length c7) xs' := Kd.R_mono (Kd.R_move (Kd.R_types R7.out P7.out (by decide)) (fun k hk => st10 k hk.2)) (fun _ _ => trivial)
     have B10 : Below w.heap.size w w10 := by rw [hw10]; exact B7.out.setCell (p := ⟨gp, 2, none⟩) PR3.out.1 _
     have M10 : w10.heap[gm]? = some (.cells #[.int .i64 (W : Int), .int .i64 (HH : Int), fv] 137 (0, 0)) := by rw [HFV.out]; exact (st10 gm (fun h => PR3.out.2.2 h.symm)).trans M7.out
     have G10 := (st10 gr (fun h => PR3.out.2.1 h.symm)).trans G7.out
     have HI : Aside0 (MI w gm gr gp W HH fv w10 xs' A7 c7) := ⟨R10, P10, M10, G10, B10⟩
     clear hw10 P10 st10 R10 B10 M10 G10 q2 fr2
     try go_wp2
     go_roundw
     case measure => simp [intOf]; omega
     case rel => exact ⟨x + 1, xs', A7, c7, by omega, by go_num, ⟨by rw [HXS.out, HX.out, ← Nat.add_assoc, gridTo_succ F hxl]⟩, HI⟩
    ·obtain rfl : W = x := by omega
     have c2 : decide ((W : Int) < (W : Int)) = false := decide_eq_false (by omega)
     go_wp2
     go_roundw
     case measure => simp [intOf]; omega
     case rel => exact ⟨y + 1, xs, A0, c0, by omega, by go_num, ⟨by rw [HX.out, Nat.succ_mul]⟩, HI⟩
  ·obtain rfl : HH = y := by omega
   have c1 : decide ((HH : Int) < (HH : Int)) = false := decide_eq_false (by omega)
   obtain ⟨hR, hP, hM, hG, hB⟩ := HI.out
   have p0 := (blk_cell hP 0).trans rfl
   have p1 := (blk_cell hP 1).trans rfl
   have p2 := (blk_cell hP 2).trans rfl
   have r0 := (blk_cell hG 0).trans rfl
   have r1 := (blk_cell hG 1).trans rfl
   have r2 := (blk_cell hG 2).trans rfl
   have f0 := blk_frozen hG 0
   have f1 := blk_frozen hG 1
   have f2 := blk_frozen hG 2
   have HR := Aside0.mk hR
   have HG := Aside0.mk hG
   have HB := Aside0.mk hB
   clear hR hP hM hG hB
   go_wp2
   obtain ⟨w5, hw5⟩ : ∃ w5, w5 = ((wr.setCell ⟨gr, 0, none⟩ (.int .i64 (W : Int))).setCell ⟨gr, 1, none⟩ (.int .i64 (HH : Int))).setCell ⟨gr, 2, none⟩ (.slice Ay xsy.length cy) := ⟨_, rfl⟩
   rw [← hw5]
   obtain ⟨hG5, hst5, hbl5⟩ := put3 HG.out hw5
   have e5 : xsy = gridTo F W (W * HH) := by rw [HXY.out, Nat.mul_comm]
   refine bodyPost_ret (results_cell_row rfl _ _ gr 31 #[.int .i64 (W : Int), .int .i64 (HH : Int), .slice Ay xsy.length cy] (0, 0) _ rfl hG5 Try.underlying31 rfl (by kernel_rfl)) rfl ?_
   exact ⟨.slice Ay xsy.length cy, rfl, by rw [← e5]; exact Kd.R_mono (Kd.R_move (Kd.R_types HR.out HG.out (by decide)) (fun k hk => hst5 k hk.2)) (fun _ _ => trivial), HB.out.trans (hbl5 _ GR.out)⟩
end Go.Proofs.Ytbbebhdcfopmmaa.A
end
section
set_option linter.unusedVariables false
set_option linter.unusedSimpArgs false
namespace Go.Proofs.Ytbbebhdcfopmmaa.A
open Go.RowKit Go.Proofs.YtbbebhdcfopmmaaW.PrintWords Go.Proofs.YtbbebhdcfopmmaaW.PrintLast Go.Proofs.YtbbebhdcfopmmaaW.PrintMore Go.Proofs.Ytbbebhdcfopmmaa.PCodecNames

theorem of_calls (W H n c : Nat) (A : Option Addr) (w : World) :
    Calls Try.prog 86 #[.agg #[.int .i64 (W : Int), .int .i64 (H : Int), .slice A n c]] w fun e w' => ∃ g, e = .returned (.func (.func 104) #[] #[.pointer (some ⟨g, 0, none⟩)]) ∧ w.heap.size ≤ g ∧ w'.heap[g]? = some (.cells #[.int .i64 (W : Int), .int .i64 (H : Int), .slice A n c] 31 (0, 0)) ∧ Below w.heap.size w w' := by
 have hu31 := Try.underlying31
 have hmf : ∀ (fn : Fn) (first cap : Array Value) (w : World), (Instr.makeFunc fn first cap).run Try.prog w = .ok (.func fn first cap) w := fun _ _ _ _ => rfl
 go_enter Try.func86, Try.ntmps86
 go_wp2_with ((with_reducible refine gate_dst (N := 1) rfl ?_); refine box_event ?hg (N := 1) ?hd (cs := #[.int .i64 (W : Int), .int .i64 (H : Int), .slice A n c]) (t := 31) ?hr ?_; (case hd => rfl); (case hg => rfl); (case hr => first | (go_simp; done) | (go_simp; rfl)); intro gm hgm w1 hm1 hb1; have HM1 := Aside0.mk hm1; have HB1 := Aside0.mk hb1; have GM := Aside0.mk hgm; clear hm1 hb1 hgm)
 go_ret
 exact ⟨gm, rfl, by rw [GM.out]; exact Nat.le_refl _, HM1.out, HB1.out⟩
set_option maxHeartbeats 1000000 in
theorem of1_calls (W H n c x y g : Nat) (A : Option Addr) (xs : List Nat) (w : World) (hg : w.heap[g]? = some (.cells #[.int .i64 (W : Int), .int .i64 (H : Int), .slice A xs.length c] 31 (0, 0))) (hC : (nat .u32).C w A xs.length xs) (hi : y * W + x < xs.length) (hl : xs.length < 4611686018427387904) :
    Calls Try.prog 104 #[.int .i64 (x : Int), .int .i64 (y : Int), .pointer (some ⟨g, 0, none⟩)] w fun e w' => e = .returned (.int .u32 ((gt xs (y * W + x) : Nat) : Int)) ∧ w = w' := by
 have hu31 := Try.underlying31
 obtain ⟨ad, rfl, hc⟩ := C_nat hC _ hi
 obtain ⟨i, hie⟩ : ∃ i, i = y * W + x := ⟨_, rfl⟩
 rw [← hie] at hc hi ⊢
 have c0 := (blk_cell hg 0).trans rfl
 have c2 := (blk_cell hg 2).trans rfl
 have hyw : y * W ≤ i := by omega
 have hm1 : IntKind.i64.wrap ((y : Int) * (W : Int)) = ((y * W : Nat) : Int) := by rw [← Int.natCast_mul]; simp only [IntKind.wrap_i64]; omega
 have hm2 : IntKind.i64.wrap (((y * W : Nat) : Int) + (x : Int)) = (i : Int) := by simp only [IntKind.wrap_i64]; omega
 have hm3 : IntKind.i64.wrap ((y : Int) * (W : Int) + (x : Int)) = (i : Int) := by rw [← Int.natCast_mul]; exact hm2
 have hlt : (i : Int) < (xs.length : Int) := by omega
 clear hie hyw hl hg hC
 go_enter Try.func104, Try.ntmps104
 go_wp2
 go_ret
 exact ⟨rfl, rfl⟩

/-- a rectangle's places -/
def cropF (xs : List Nat) (W x0 y0 : Nat) (x y : Nat) : Nat := gt xs ((y0 + y) * W + (x0 + x))
def cropN (xs : List Nat) (W x0 y0 x1 y1 : Nat) : List Nat := gridTo (cropF xs W x0 y0) (x1 - x0) ((x1 - x0) * (y1 - y0))
set_option maxHeartbeats 1000000 in
theorem crop1_calls (W H n c x y x0 y0 x1 y1 g ga gr : Nat) (A : Option Addr) (xs : List Nat) (w : World) (hg : w.heap[g]? = some (.cells #[.int .i64 (W : Int), .int .i64 (H : Int), .slice A xs.length c] 31 (0, 0))) (hC : (nat .u32).C w A xs.length xs) (hi : (y0 + y) * W + (x0 + x) < xs.length) (hl : xs.length < 1048576) (hx : x0 + x < 1048576) (hy : y0 + y < 1048576)
    (ha : w.heap[ga]? = some (.cells #[.func (.func 104) #[] #[.pointer (some ⟨g, 0, none⟩)]] 134 (0, 0))) (hr : w.heap[gr]? = some (.cells #[.int .i64 (x0 : Int), .int .i64 (y0 : Int), .int .i64 (x1 : Int), .int .i64 (y1 : Int)] 73 (0, 0))) :
    Calls Try.prog 87 #[.int .i64 (x : Int), .int .i64 (y : Int), .pointer (some ⟨ga, 0, none⟩), .pointer (some ⟨gr, 0, none⟩)] w fun e w' => e = .returned (.int .u32 ((cropF xs W x0 y0 x y : Nat) : Int)) ∧ w = w' := by
 have hu31 := Try.underlying31
 have hu73 := Try.underlying73
 have a0 := (blk_cell ha 0).trans rfl
 have r0 := (blk_cell hr 0).trans rfl
 have r1 := (blk_cell hr 1).trans rfl
 have hm1 : IntKind.i64.wrap ((x0 : Int) + (x : Int)) = ((x0 + x : Nat) : Int) := by simp only [IntKind.wrap_i64]; omega
 have hm2 : IntKind.i64.wrap ((y0 : Int) + (y : Int)) = ((y0 + y : Nat) : Int) := by simp only [IntKind.wrap_i64]; omega
 have HG := Aside0.mk hg
 have HC := Aside0.mk hC
 have HI := Aside0.mk hi
 have HL := Aside0.mk (show xs.length < 4611686018427387904 by omega)
 obtain ⟨X, hX⟩ : ∃ X, X = x0 + x := ⟨_, rfl⟩
 obtain ⟨Y, hY⟩ : ∃ Y, Y = y0 + y := ⟨_, rfl⟩
 have HF : Aside0 (cropF xs W x0 y0 x y = gt xs (Y * W + X)) := ⟨by rw [hX, hY]; rfl⟩
 rw [← hX] at hm1 HI
 rw [← hY] at hm2 HI
 clear hg hC hi hl hx hy hX hY ha hr
 go_enter Try.func87, Try.ntmps87
 go_wp2_with (go_at_call 104; refine (of1_calls W H n c X Y g A xs w HG.out HC.out HI.out HL.out).mono ?_; rintro e w1 ⟨rfl, rfl⟩)
 go_ret
 exact ⟨by rw [HF.out]; rfl, rfl⟩
set_option maxHeartbeats 4000000 in
set_option maxRecDepth 100000 in
theorem Crop_calls (p : Pl) (x0 y0 x1 y1 cap : Nat) (A : Option Addr) (w : World) (hp : p.ok) (hx : x0 < x1) (hx2 : x1 ≤ p.w) (hy : y0 < y1) (hy2 : y1 ≤ p.h) (hC : (nat .u32).C w A p.s.length p.s) (hcap : p.s.length ≤ cap) :
    Calls Try.prog 67 #[.agg #[.int .i64 (p.w : Int), .int .i64 (p.h : Int), .slice A p.s.length cap], .agg #[.int .i64 (x0 : Int), .int .i64 (y0 : Int), .int .i64 (x1 : Int), .int .i64 (y1 : Int)]] w fun e w' => ∃ v, e = .returned (.tuple #[.agg #[.int .i64 ((x1 - x0 : Nat) : Int), .int .i64 ((y1 - y0 : Nat) : Int), v], .int .i64 0]) ∧ (nat .u32).R 24 w' w.heap.size (fun _ => True) v (cropN p.s p.w x0 y0 x1 y1) ∧ Below w.heap.size w w' := by
 have hu31 := Try.underlying31
 have hu73 := Try.underlying73
 have hmf : ∀ (fn : Fn) (first cap : Array Value) (w : World), (Instr.makeFunc fn first cap).run Try.prog w = .ok (.func fn first cap) w := fun _ _ _ _ => rfl
 obtain ⟨o1, o2, o3, o4, o5, o6, o7⟩ := hp
 have hE : checkE (p.w : Int) (p.h : Int) p.s.length = 0 := by
  have := Pl.ok.check (p := p) ⟨o1, o2, o3, o4, o5, o6, o7⟩
  rw [checkE_f _ _ _ (by rw [ints_length]; omega), ints_length, Option.some.injEq] at this
  omega
 have t1 : decide ((x0 : Int) < 0) = false := decide_eq_false (by omega)
 have t2 : decide ((y0 : Int) < 0) = false := decide_eq_false (by omega)
 have t3 : decide (x1 ≤ x0) = false := decide_eq_false (by omega)
 have t4 : decide (y1 ≤ y0) = false := decide_eq_false (by omega)
 have t5 : decide (p.w < x1) = false := decide_eq_false (by omega)
 have t6 : decide (p.h < y1) = false := decide_eq_false (by omega)
 obtain ⟨dx, hdx⟩ : ∃ dx, dx = x1 - x0 := ⟨_, rfl⟩
 obtain ⟨dy, hdy⟩ : ∃ dy, dy = y1 - y0 := ⟨_, rfl⟩
 have hm1 : IntKind.i64.wrap ((x1 : Int) - (x0 : Int)) = (dx : Int) := by simp only [IntKind.wrap_i64]; omega
 have hm2 : IntKind.i64.wrap ((y1 : Int) - (y0 : Int)) = (dy : Int) := by simp only [IntKind.wrap_i64]; omega
 have HIN : Aside0 (∀ x y, x < dx → y < dy → (y0 + y) * p.w + (x0 + x) < p.s.length) := ⟨fun x y h1 h2 => idx_lt o6 (by omega) (by omega)⟩
 have HLS : Aside0 (p.s.length < 1048576) := ⟨by omega⟩
 have HE := Aside0.mk hE
 have HC := Aside0.mk hC
 have HD : Aside0 (dx * dy ≤ 1048576 ∧ dx ≤ 1048576 ∧ dy ≤ 1048576) := ⟨prod_small (by omega) (by omega), by omega, by omega⟩
 have HB1 : Aside0 (∀ x, x < dx → x0 + x < 1048576) := ⟨fun x h => by omega⟩
 have HB2 : Aside0 (∀ y, y < dy → y0 + y < 1048576) := ⟨fun x h => by omega⟩
 have HCR : Aside0 (cropN p.s p.w x0 y0 x1 y1 = gridTo (cropF p.s p.w x0 y0) dx (dx * dy)) := ⟨by rw [hdx, hdy]; rfl⟩
 rw [← hdx, ← hdy]
 have HN : Aside0 (p.s.length < 4611686018427387904) := ⟨by omega⟩
 clear o1 o2 o3 o4 o5 o6 o7 hE hx hx2 hy hy2 hC hcap hdx hdy
 obtain ⟨W, hW⟩ : ∃ W, W = p.w := ⟨_, rfl⟩
 obtain ⟨H, hH⟩ : ∃ H, H = p.h := ⟨_, rfl⟩
 obtain ⟨xs, hxs⟩ : ∃ xs, xs = p.s := ⟨_, rfl⟩
 rw [← hW, ← hxs] at HIN HCR ⊢
 rw [← hW, ← hH, ← hxs] at HE
 rw [← hxs] at HLS HC HN
 rw [← hH]
 rw [← hW] at t5
 rw [← hH] at t6
 rw [HCR.out]
 obtain ⟨zs, hzs⟩ : ∃ zs, zs = gridTo (cropF xs W x0 y0) dx (dx * dy) := ⟨_, rfl⟩
 rw [← hzs]
 have HZ := Aside0.mk hzs
 clear hW hH hxs HCR hzs
 go_enter Try.func67, Try.ntmps67
 go_wp2_with (first | ((with_reducible refine gate_dst (N := 2) rfl ?_); refine box_event ?hg (N := 2) ?hd (cs := #[.int .i64 (W : Int), .int .i64 (H : Int), .slice A xs.length cap]) (t := 31) ?hr ?_; (case hd => rfl); (case hg => rfl); (case hr => first | (go_simp; done) | (go_simp; rfl)); intro gp hgp w1 hm1 hb1; have P1 := Aside0.mk hm1; have B1 := Aside0.mk hb1; have GP := Aside0.mk (show w.heap.size ≤ gp by rw [hgp]; exact Nat.le_refl _); clear hm1 hb1 hgp) |
  ((with_reducible refine gate_dst (N := 3) rfl ?_); refine box_event ?hg (N := 3) ?hd (cs := #[.int .i64 (x0 : Int), .int .i64 (y0 : Int), .int .i64 (x1 : Int), .int .i64 (y1 : Int)]) (t := 73) ?hr ?_; (case hd => rfl); (case hg => rfl); (case hr => first | (go_simp; done) | (go_simp; rfl)); intro gr hgr w2 hm2 hb2; have P2 := Aside0.mk (blk_below P1.out hb2); have R2 := Aside0.mk hm2; have B2 := Aside0.mk (below_step B1.out hb2); have GR := Aside0.mk (show w.heap.size ≤ gr by rw [hgr]; exact below_size B1.out); clear hm2 hb2 hgr) |
  ((with_reducible refine gate_dst (N := 4) rfl ?_); refine box_event ?hg (N := 4) ?hd (cs := #[.int .i64 0, .int .i64 0, .slice none 0 0]) (t := 31) ?hr ?_; (case hd => rfl); (case hg => rfl); (case hr => first | (go_simp; done) | (go_simp; rfl)); intro go_ hgo w3 hm3 hb3; have P3 := Aside0.mk (blk_below P2.out hb3); have R3 := Aside0.mk (blk_below R2.out hb3); have O3 := Aside0.mk hm3; have B3 := Aside0.mk (below_step B2.out hb3); have GO := Aside0.mk (show w.heap.size ≤ go_ by rw [hgo]; exact below_size B2.out); have p0 := (blk_cell P3.out 0).trans rfl; have p1 := (blk_cell P3.out 1).trans rfl; have p2 := (blk_cell P3.out 2).trans rfl; clear hm3 hb3 hgo) |
  (go_at_call 52; refine (Check_calls (W : Int) (H : Int) A xs.length cap _ HN.out).mono ?_; rw [HE.out]; rintro e w4 ⟨rfl, hb⟩; have P4 := Aside0.mk (blk_below P3.out hb); have R4 := Aside0.mk (blk_below R3.out hb); have O4 := Aside0.mk (blk_below O3.out hb); have B4 := Aside0.mk (below_step B3.out hb); clear hb p0 p1 p2; have p0 := (blk_cell P4.out 0).trans rfl; have p1 := (blk_cell P4.out 1).trans rfl; have p2 := (blk_cell P4.out 2).trans rfl; have r0 := (blk_cell R4.out 0).trans rfl; have r1 := (blk_cell R4.out 1).trans rfl; have r2 := (blk_cell R4.out 2).trans rfl; have r3 := (blk_cell R4.out 3).trans rfl) |
  (go_at_call 86; refine (of_calls W H xs.length cap A _).mono ?_; rintro e w5 ⟨g, rfl, hg, hG, hb⟩; have R5 := Aside0.mk (blk_below R4.out hb); have O5 := Aside0.mk (blk_below O4.out hb); have B5 := Aside0.mk (below_step B4.out hb); have G5 := Aside0.mk hG; clear hb hG hg p0 p1 p2 r0 r1 r2 r3) |
  ((with_reducible refine gate_dst (N := 7) rfl ?_); refine box_event ?hg (N := 7) ?hd (cs := #[.nilFunc]) (t := 134) ?hr ?_; (case hd => rfl); (case hg => rfl); (case hr => first | (go_simp; done) | (go_simp; rfl)); intro ga hga w6 hm6 hb6; have R6 := Aside0.mk (blk_below R5.out hb6); have O6 := Aside0.mk (blk_below O5.out hb6); have B6 := Aside0.mk (below_step B5.out hb6); have G6 := Aside0.mk (blk_below G5.out hb6); have A6 := Aside0.mk hm6; have GA := Aside0.mk (show w.heap.size ≤ ga by rw [hga]; exact below_size B5.out); have a0 := (blk_cell A6.out 0).trans rfl; have f0 := blk_frozen A6.out 0; have NR := Aside0.mk (blk_ne R6.out A6.out (by decide)); have NO := Aside0.mk (blk_ne O6.out A6.out (by decide)); have NG := Aside0.mk (blk_ne G6.out A6.out (by decide)); have R7 : Aside0 ((w6.setCell ⟨ga, 0, none⟩ (.func (.func 104) #[] #[.pointer (some ⟨g, 0, none⟩)])).heap[gr]? = some (.cells #[.int .i64 (x0 : Int), .int .i64 (y0 : Int), .int .i64 (x1 : Int), .int .i64 (y1 : Int)] 73 (0, 0))) := ⟨(Below.heap_setCell _ _ _ gr NR.out).trans R6.out⟩; have O7 : Aside0 ((w6.setCell ⟨ga, 0, none⟩ (.func (.func 104) #[] #[.pointer (some ⟨g, 0, none⟩)])).heap[go_]? = some (.cells #[.int .i64 0, .int .i64 0, .slice none 0 0] 31 (0, 0))) := ⟨(Below.heap_setCell _ _ _ go_ NO.out).trans O6.out⟩; have G7 : Aside0 ((w6.setCell ⟨ga, 0, none⟩ (.func (.func 104) #[] #[.pointer (some ⟨g, 0, none⟩)])).heap[g]? = some (.cells #[.int .i64 (W : Int), .int .i64 (H : Int), .slice A xs.length cap] 31 (0, 0))) := ⟨(Below.heap_setCell _ _ _ g NG.out).trans G6.out⟩; have A7 : Aside0 ((w6.setCell ⟨ga, 0, none⟩ (.func (.func 104) #[] #[.pointer (some ⟨g, 0, none⟩)])).heap[ga]? = some (.cells #[.func (.func 104) #[] #[.pointer (some ⟨g, 0, none⟩)]] 134 (0, 0))) := ⟨(blk_set A6.out 0 _).trans rfl⟩; have B7 : Aside0 (Below w.heap.size w (w6.setCell ⟨ga, 0, none⟩ (.func (.func 104) #[] #[.pointer (some ⟨g, 0, none⟩)]))) := ⟨B6.out.setCell (p := ⟨ga, 0, none⟩) GA.out _⟩; have r0 := (blk_cell R7.out 0).trans rfl; have r1 := (blk_cell R7.out 1).trans rfl; have r2 := (blk_cell R7.out 2).trans rfl; have r3 := (blk_cell R7.out 3).trans rfl; clear hm6 hb6 hga) |
  (go_at_call 88; refine (made_calls 87 Try.f87 #[.pointer (some ⟨ga, 0, none⟩), .pointer (some ⟨gr, 0, none⟩)] (cropF xs W x0 y0) dx dy _ Try.func87 rfl rfl HD.out.1 HD.out.2.1 HD.out.2.2 ?_).mono ?_; (case _ => exact fun w8 hb8 x y hx hy => (crop1_calls W H xs.length cap x y x0 y0 x1 y1 g ga gr A xs w8 (blk_below G7.out hb8) (Kd.C_below (Kd.C_below HC.out B7.out) (hb8.mono (Nat.le_refl _))) (HIN.out x y hx hy) HLS.out (HB1.out x hx) (HB2.out y hy) (blk_below A7.out hb8) (blk_below R7.out hb8)).mono fun e w9 h => ⟨h.1, by rw [h.2]; exact Below.refl _ _⟩); rw [← HZ.out]; rintro e w8 ⟨v, rfl, hR8, hb8⟩; have V8 := Aside0.mk (Kd.R_lower hR8 B7.out.size); have O8 := Aside0.mk (blk_below O7.out hb8); have B8 := Aside0.mk (below_step B7.out hb8); obtain ⟨Av, cv, rfl⟩ := Kd.R_slice hR8; have o0 := (blk_cell O8.out 0).trans rfl; have o1 := (blk_cell O8.out 1).trans rfl; have o2 := (blk_cell O8.out 2).trans rfl; have fo0 := blk_frozen O8.out 0; have fo1 := blk_frozen O8.out 1; have fo2 := blk_frozen O8.out 2; clear hR8 hb8))
 obtain ⟨w9, hw9⟩ : ∃ w9, w9 = ((w8.setCell ⟨go_, 0, none⟩ (.int .i64 (dx : Int))).setCell ⟨go_, 1, none⟩ (.int .i64 (dy : Int))).setCell ⟨go_, 2, none⟩ (.slice Av zs.length cv) := ⟨_, rfl⟩
 rw [← hw9]
 obtain ⟨hG9, hst9, hbl9⟩ := put3 O8.out hw9
 refine bodyPost_ret (results_ct rfl _ _ go_ 31 #[.int .i64 (dx : Int), .int .i64 (dy : Int), .slice Av zs.length cv] (0, 0) _ rfl hG9 Try.underlying31 rfl (by kernel_rfl)) rfl ?_
 exact ⟨.slice Av zs.length cv, rfl, Kd.R_mono (Kd.R_move (Kd.R_types V8.out O8.out (by decide)) (fun k hk => hst9 k hk.2)) (fun _ _ => trivial), B8.out.trans (hbl9 _ GO.out)⟩
theorem new1_calls (s g : Nat) (x y : Int) (w : World) (hg : w.heap[g]? = some (.cells #[.int .u32 (s : Int)] 24 (0, 0))) :
    Calls Try.prog 110 #[.int .i64 x, .int .i64 y, .pointer (some ⟨g, 0, none⟩)] w fun e w' => e = .returned (.int .u32 (s : Int)) ∧ w = w' := by
 have c0 := (blk_cell hg 0).trans rfl
 go_enter Try.func110, Try.ntmps110
 go_wp2
 go_ret
 exact ⟨rfl, rfl⟩
theorem gridTo_const (s W : Nat) : ∀ n, gridTo (fun _ _ => s) W n = List.replicate n s := by
 intro n
 unfold gridTo
 rw [List.map_const', List.length_range]
set_option maxHeartbeats 4000000 in
set_option maxRecDepth 100000 in
theorem New_calls (x y : Int) (s : Nat) (w : World) :
    Calls Try.prog 96 #[.int .i64 x, .int .i64 y, .int .u32 (s : Int)] w fun e w' => ∃ v, e = .returned (.tuple #[.agg #[.int .i64 (if sizeB x y = true then x else 0), .int .i64 (if sizeB x y = true then y else 0), v], .int .i64 (if sizeB x y = true then 0 else 50)]) ∧ (nat .u32).R 24 w' w.heap.size (fun _ => True) v (if sizeB x y = true then List.replicate (x * y).toNat s else []) ∧ Below w.heap.size w w' := by
 have hu31 := Try.underlying31
 have hmf : ∀ (fn : Fn) (first cap : Array Value) (w : World), (Instr.makeFunc fn first cap).run Try.prog w = .ok (.func fn first cap) w := fun _ _ _ _ => rfl
 obtain ⟨b, hb⟩ : ∃ b, b = sizeB x y := ⟨_, rfl⟩
 have HS := Aside0.mk hb
 rw [← hb]
 cases b with
 | false =>
  clear hb
  simp only [Bool.false_eq_true, if_false]
  go_enter Try.func96, Try.ntmps96
  go_wp2_with (first | ((with_reducible refine gate_dst (N := 5) rfl ?_); refine box_event ?hg (N := 5) ?hd (cs := #[.int .u32 (s : Int)]) (t := 24) ?hr ?_; (case hd => rfl); (case hg => rfl); (case hr => first | (go_simp; done) | (go_simp; rfl)); intro gs hgs w1 hm1 hb1; have B1 := Aside0.mk hb1; clear hm1 hb1 hgs) |
   ((with_reducible refine gate_dst (N := 6) rfl ?_); refine box_event ?hg (N := 6) ?hd (cs := #[.int .i64 0, .int .i64 0, .slice none 0 0]) (t := 31) ?hr ?_; (case hd => rfl); (case hg => rfl); (case hr => first | (go_simp; done) | (go_simp; rfl)); intro go_ hgo w3 hm3 hb3; have O3 := Aside0.mk hm3; have B3 := Aside0.mk (below_step B1.out hb3); have GO := Aside0.mk (show w.heap.size ≤ go_ by rw [hgo]; exact below_size B1.out); have o0 := (blk_cell O3.out 0).trans rfl; have o1 := (blk_cell O3.out 1).trans rfl; have o2 := (blk_cell O3.out 2).trans rfl; have fo0 := blk_frozen O3.out 0; have fo1 := blk_frozen O3.out 1; have fo2 := blk_frozen O3.out 2; clear hm3 hb3 hgo) |
   (go_at_call 80; refine (size_calls x y _).mono ?_; rw [← HS.out]; rintro e w4 ⟨rfl, rfl⟩))
  obtain ⟨w9, hw9⟩ : ∃ w9, w9 = ((w3.setCell ⟨go_, 0, none⟩ (.int .i64 0)).setCell ⟨go_, 1, none⟩ (.int .i64 0)).setCell ⟨go_, 2, none⟩ (.slice none 0 0) := ⟨_, rfl⟩
  rw [← hw9]
  obtain ⟨hG9, hst9, hbl9⟩ := put3 O3.out hw9
  refine bodyPost_ret (results_ct rfl _ _ go_ 31 #[.int .i64 0, .int .i64 0, .slice none 0 0] (0, 0) _ rfl hG9 Try.underlying31 rfl (by kernel_rfl)) rfl ?_
  exact ⟨_, rfl, Kd.R_nil _ _ _ _ _, B3.out.trans (hbl9 _ GO.out)⟩
 | true =>
  simp only [if_true]
  obtain ⟨b1, b2, b3, b4, b5⟩ := sizeB_true hb.symm
  obtain ⟨W, rfl⟩ : ∃ W : Nat, x = W := ⟨x.toNat, by omega⟩
  obtain ⟨H, rfl⟩ : ∃ H : Nat, y = H := ⟨y.toNat, by omega⟩
  have HD : Aside0 (W * H ≤ 1048576 ∧ W ≤ 1048576 ∧ H ≤ 1048576) := ⟨prod_small (by omega) (by omega), by omega, by omega⟩
  obtain ⟨zs, hzs⟩ : ∃ zs, zs = List.replicate ((W : Int) * (H : Int)).toNat s := ⟨_, rfl⟩
  have HZ : Aside0 (gridTo (fun _ _ => s) W (W * H) = zs) := ⟨by rw [gridTo_const, hzs, ← Int.natCast_mul, Int.toNat_natCast]⟩
  rw [← hzs]
  clear hb hzs b1 b2 b3 b4 b5
  go_enter Try.func96, Try.ntmps96
  go_wp2_with (first | ((with_reducible refine gate_dst (N := 5) rfl ?_); refine box_event ?hg (N := 5) ?hd (cs := #[.int .u32 (s : Int)]) (t := 24) ?hr ?_; (case hd => rfl); (case hg => rfl); (case hr => first | (go_simp; done) | (go_simp; rfl)); intro gs hgs w1 hm1 hb1; have S1 := Aside0.mk hm1; have B1 := Aside0.mk hb1; clear hm1 hb1 hgs) |
   ((with_reducible refine gate_dst (N := 6) rfl ?_); refine box_event ?hg (N := 6) ?hd (cs := #[.int .i64 0, .int .i64 0, .slice none 0 0]) (t := 31) ?hr ?_; (case hd => rfl); (case hg => rfl); (case hr => first | (go_simp; done) | (go_simp; rfl)); intro go_ hgo w3 hm3 hb3; have S3 := Aside0.mk (blk_below S1.out hb3); have O3 := Aside0.mk hm3; have B3 := Aside0.mk (below_step B1.out hb3); have GO := Aside0.mk (show w.heap.size ≤ go_ by rw [hgo]; exact below_size B1.out); clear hm3 hb3 hgo) |
   (go_at_call 80; refine (size_calls _ _ _).mono ?_; rw [← HS.out]; rintro e w4 ⟨rfl, rfl⟩) |
   (go_at_call 88; refine (made_calls 110 Try.f110 #[.pointer (some ⟨gs, 0, none⟩)] (fun _ _ => s) W H _ Try.func110 rfl rfl HD.out.1 HD.out.2.1 HD.out.2.2 ?_).mono ?_; (case _ => exact fun w8 hb8 x y hx hy => (new1_calls s gs x y w8 (blk_below S3.out hb8)).mono fun e w9 h => ⟨h.1, by rw [h.2]; exact Below.refl _ _⟩); rw [HZ.out]; rintro e w8 ⟨v, rfl, hR8, hb8⟩; have V8 := Aside0.mk (Kd.R_lower hR8 B3.out.size); have O8 := Aside0.mk (blk_below O3.out hb8); have B8 := Aside0.mk (below_step B3.out hb8); obtain ⟨Av, cv, rfl⟩ := Kd.R_slice hR8; have o0 := (blk_cell O8.out 0).trans rfl; have o1 := (blk_cell O8.out 1).trans rfl; have o2 := (blk_cell O8.out 2).trans rfl; have fo0 := blk_frozen O8.out 0; have fo1 := blk_frozen O8.out 1; have fo2 := blk_frozen O8.out 2; clear hR8 hb8))
  obtain ⟨w9, hw9⟩ : ∃ w9, w9 = ((w8.setCell ⟨go_, 0, none⟩ (.int .i64 (W : Int))).setCell ⟨go_, 1, none⟩ (.int .i64 (H : Int))).setCell ⟨go_, 2, none⟩ (.slice Av zs.length cv) := ⟨_, rfl⟩
  rw [← hw9]
  obtain ⟨hG9, hst9, hbl9⟩ := put3 O8.out hw9
  refine bodyPost_ret (results_ct rfl _ _ go_ 31 #[.int .i64 (W : Int), .int .i64 (H : Int), .slice Av zs.length cv] (0, 0) _ rfl hG9 Try.underlying31 rfl (by kernel_rfl)) rfl ?_
  exact ⟨.slice Av zs.length cv, rfl, Kd.R_mono (Kd.R_move (Kd.R_types V8.out O8.out (by decide)) (fun k hk => hst9 k hk.2)) (fun _ _ => trivial), B8.out.trans (hbl9 _ GO.out)⟩
end Go.Proofs.Ytbbebhdcfopmmaa.A
end
section
set_option linter.unusedVariables false
set_option linter.unusedSimpArgs false
namespace Go.Proofs.Ytbbebhdcfopmmaa.A
open Go.RowKit Go.Proofs.YtbbebhdcfopmmaaW.PrintWords Go.Proofs.YtbbebhdcfopmmaaW.PrintLast Go.Proofs.YtbbebhdcfopmmaaW.PrintMore Go.Proofs.Ytbbebhdcfopmmaa.PCodecNames

/-- bytes of one's own, in the value's own block -/
def OwnB (w : World) (B : Nat) (v : Value) (xs : List Nat) : Prop := (nat .u8).R 5 w B (fun k => v.ownBlock = some k) v xs
theorem OwnB.of_R {w : World} {B : Nat} {ok : Nat → Prop} {v : Value} {xs : List Nat} (h : (nat .u8).R 5 w B ok v xs) : OwnB w B v xs := Kd.R_of_own (Kd.own_of_R h) (fun k hk => hk)
theorem OwnB.C {w : World} {B : Nat} {v : Value} {xs : List Nat} (h : OwnB w B v xs) : ∃ A c, v = .slice A xs.length c ∧ xs.length ≤ c ∧ (nat .u8).C w A xs.length xs := Kd.R_reads h
theorem OwnB.kept {w w1 : World} {B : Nat} {v : Value} {xs : List Nat} {S : Nat → Prop} (h : OwnB w B v xs) (hk : Kept w w1 S) (hS : ∀ k, v.ownBlock = some k → ¬ S k) : OwnB w1 B v xs :=
 Kd.R_step h (fun k ho hlt => hk.2 k hlt (hS k ho))
theorem OwnB.below {w w1 : World} {B : Nat} {v : Value} {xs : List Nat} (h : OwnB w B v xs) (hb : Below w.heap.size w w1) : OwnB w1 B v xs := Kd.R_below h hb
theorem OwnB.lt {w : World} {B : Nat} {v : Value} {xs : List Nat} (h : OwnB w B v xs) {k : Nat} (hk : v.ownBlock = some k) : B ≤ k ∧ k < w.heap.size := by
 have := (Kd.R_bound h).1 k hk
 exact ⟨this.2.1, this.2.2.1⟩
/-- two rows of one's own do not share a block -/
def ApartV (u v : Value) : Prop := ∀ k, u.ownBlock = some k → v.ownBlock ≠ some k
theorem crc_lt {l : List Nat} (h : ∀ i, gt l i < 256) : crc l < 4294967296 := by unfold crc; omega
set_option maxHeartbeats 1000000 in
theorem summed_calls (g cap : Nat) (A : Option Addr) (v : Value) (b xs : List Nat) (w0 w : World) (hT : TB w g) (hB : Below w0.heap.size w0 w) (ho : OwnB w w0.heap.size v b) (hC : (nat .u8).C w A xs.length xs) (hcap : xs.length ≤ cap) (h8 : ∀ i, gt xs i < 256) (hl : xs.length < 1152921504606846976) (hbl : b.length < 70368744177664) :
    Calls Try.prog 70 #[.pointer (some ⟨g, 0, none⟩), v, .slice A xs.length cap] w fun e w' => ∃ v', e = .returned v' ∧ OwnB w' w0.heap.size v' (b ++ beN 4 (crc xs)) ∧ Below w0.heap.size w0 w' ∧ Kept w w' (fun k => v.ownBlock = some k) ∧ (∀ k, v'.ownBlock = some k → v.ownBlock = some k ∨ w.heap.size ≤ k) := by
 obtain ⟨Ab, cb, hv, _⟩ := ho.C
 obtain ⟨z, hz⟩ : ∃ z, z = crc xs := ⟨_, rfl⟩
 have HZ := Aside0.mk hz
 have hzl : z < 4294967296 := by rw [hz]; exact crc_lt h8
 have hcv : IntKind.i64.wrap (z : Int) = (z : Int) := by simp only [IntKind.wrap_i64]; omega
 have HS := Aside0.mk (sum_calls g A cap xs w hT hC hcap h8 hl)
 have HO := Aside0.mk ho
 have HB := Aside0.mk hB
 have HBL := Aside0.mk hbl
 subst hv
 rw [← hz]
 clear hz hT hC hcap h8 hl hB hbl ho
 go_enter Try.func70, Try.ntmps70
 go_wp2_with (first | (go_at_call 46; refine HS.out.mono ?_; rw [← HZ.out]; rintro e w1 ⟨rfl, hb⟩; have B1 := Aside0.mk hb; clear hb) |
  (go_at_call 65; refine (codec_numbered.calls 6 (fun k => (Value.slice Ab b.length cb).ownBlock = some k) (.slice Ab b.length cb) (ints b) 4 (z : Int) (ints (b ++ beN 4 z)) w0 _ ?h1 ?h2 ?h3).mono ?_; (case h1 => exact below_step HB.out B1.out); (case h2 => exact R_ints (Kd.R_below HO.out B1.out)); (case h3 => exact numbered_f b 4 z 6 (by omega) (by omega) HBL.out); rintro e w2 ⟨v', rfl, hR, hb, hk⟩; have R2 := Aside0.mk hR; have B2 := Aside0.mk hb; have K2 := Aside0.mk hk; clear hR hb hk))
 go_ret
 refine ⟨_, rfl, OwnB.of_R (R_nats R2.out), B2.out, ⟨Nat.le_trans B1.out.size K2.out.1, fun i hi hn => (K2.out.2 i (Nat.lt_of_lt_of_le hi B1.out.size) hn).trans (B1.out.block i hi)⟩, fun k hk => ?_⟩
 rcases R2.out.1 k hk with h | h
 ·exact .inl h
 ·exact .inr (Nat.le_trans B1.out.size h)

theorem magic_calls (w : World) : Calls Try.prog 64 #[] w fun e w' => e = .returned (.agg #[.int .u8 72, .int .u8 76, .int .u8 68, .int .u8 49]) ∧ Below w.heap.size w w' := by
 have hu106 := Try.underlying106
 go_enter Try.func64, Try.ntmps64
 go_wp2_with ((with_reducible refine gate_dst (N := 0) rfl ?_); refine box_event ?hg (N := 0) ?hd (cs := #[.int .u8 0, .int .u8 0, .int .u8 0, .int .u8 0]) (t := 106) ?hr ?_; (case hd => rfl); (case hg => rfl); (case hr => first | (go_simp; done) | (go_simp; rfl)); intro g hg w1 hm hb; have G1 := Aside0.mk hm; have B1 := Aside0.mk hb; have GG := Aside0.mk (show w.heap.size ≤ g by rw [hg]; exact Nat.le_refl _); have o0 := (blk_cell G1.out 0).trans rfl; have o1 := (blk_cell G1.out 1).trans rfl; have o2 := (blk_cell G1.out 2).trans rfl; have o3 := (blk_cell G1.out 3).trans rfl; have fo0 := blk_frozen G1.out 0; have fo1 := blk_frozen G1.out 1; have fo2 := blk_frozen G1.out 2; have fo3 := blk_frozen G1.out 3; clear hm hb hg)
 obtain ⟨w2, hw2⟩ : ∃ w2, w2 = (((w1.setCell ⟨g, 0, none⟩ (.int .u8 72)).setCell ⟨g, 1, none⟩ (.int .u8 76)).setCell ⟨g, 2, none⟩ (.int .u8 68)).setCell ⟨g, 3, none⟩ (.int .u8 49) := ⟨_, rfl⟩
 rw [← hw2]
 have hG2 : w2.heap[g]? = some (.cells #[.int .u8 72, .int .u8 76, .int .u8 68, .int .u8 49] 106 (0, 0)) := by
  rw [hw2]; exact (blk_set ((blk_set ((blk_set ((blk_set G1.out 0 _).trans rfl) 1 _).trans rfl) 2 _).trans rfl) 3 _).trans rfl
 refine bodyPost_ret (results_cell_row rfl _ _ g 106 #[.int .u8 72, .int .u8 76, .int .u8 68, .int .u8 49] (0, 0) _ rfl hG2 hu106 rfl (by kernel_rfl)) rfl ?_
 refine ⟨rfl, ?_⟩
 rw [hw2]
 exact (((B1.out.setCell (p := ⟨g, 0, none⟩) GG.out _).setCell (p := ⟨g, 1, none⟩) GG.out _).setCell (p := ⟨g, 2, none⟩) GG.out _).setCell (p := ⟨g, 3, none⟩) GG.out _

structure Pic where
 sp : Nat
 w : Nat
 h : Nat
 ss : List (List Nat)
def Pic.pl (p : Pic) (k : Nat) : Pl := ⟨p.w, p.h, p.ss.getD k []⟩
def Pic.ok (p : Pic) : Prop := p.sp ≤ 4 ∧ 0 < p.ss.length ∧ p.ss.length ≤ 4 ∧ (p.sp = 0 ∨ 3 ≤ p.ss.length) ∧ ∀ k, k < p.ss.length → (p.pl k).ok
def Pic.s31s (p : Pic) : List S31 := p.ss.map (fun s => ⟨(p.w : Int), (p.h : Int), ints s⟩)
/-- the bytes of a rectangle of one plane -/
def bodyN (s : List Nat) (W x0 y0 x1 y1 : Nat) : List Nat := packed (restsN (cropN s W x0 y0 x1 y1) (x1 - x0))
def Pic.body (p : Pic) (S n : Nat) : List Nat :=
 bodyN (p.ss.getD (n % p.ss.length) []) p.w (tX p.w S (n / p.ss.length)) (tY p.w S (n / p.ss.length)) (min (tX p.w S (n / p.ss.length) + S) p.w) (min (tY p.w S (n / p.ss.length) + S) p.h)
def Pic.head (p : Pic) (S : Nat) : List Nat := [72, 76, 68, 49, p.sp % 256, p.ss.length % 256] ++ beN 2 p.w ++ beN 2 p.h ++ beN 2 S
def Pic.idx (p : Pic) (S n : Nat) : List Nat := (List.range n).flatMap (fun i => beN 4 (p.body S i).length)
def Pic.parts (p : Pic) (S n : Nat) : List Nat := (List.range n).flatMap (fun i => p.body S i ++ beN 4 (crc (p.body S i)))
def Pic.count (p : Pic) (S : Nat) : Nat := tilesN p.w p.h S * p.ss.length
def encN (p : Pic) (S : Nat) : List Nat :=
 (p.head S ++ p.idx S (p.count S)) ++ beN 4 (crc (p.head S ++ p.idx S (p.count S))) ++ p.parts S (p.count S)
theorem Pic.idx_succ (p : Pic) (S n : Nat) : p.idx S (n + 1) = p.idx S n ++ beN 4 (p.body S n).length := by
 unfold Pic.idx; rw [List.range_succ, List.flatMap_append]; simp
theorem Pic.parts_succ (p : Pic) (S n : Nat) : p.parts S (n + 1) = p.parts S n ++ (p.body S n ++ beN 4 (crc (p.body S n))) := by
 unfold Pic.parts; rw [List.range_succ, List.flatMap_append]; simp
end Go.Proofs.Ytbbebhdcfopmmaa.A
end
