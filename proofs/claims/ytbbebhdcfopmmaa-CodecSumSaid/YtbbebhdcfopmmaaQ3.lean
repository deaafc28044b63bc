import Derived.Test.YtbbebhdcfopmmaaQ2
import Derived.ArgAppend
import Derived.Laws.EntriesVeiled
section
namespace Go.Proofs.Ytbbebhdcfopmmaa.PCodecNames
open Go.RowKit Go.Proofs.YtbbebhdcfopmmaaW.PrintWords Go.Proofs.YtbbebhdcfopmmaaW.PrintLast Go.Proofs.YtbbebhdcfopmmaaW.PrintMore
attribute [local go_sem] max2_int min2_int max_two min_two max_three min_three max_four min_four   -- for this text's walks alone
set_option linter.unusedVariables false
set_option linter.unusedSimpArgs false

def codec_grid_rect.f (a0_0 : Int) (a0_1 : Int) (a0_2 : Int) (a0_3 : Int) (a0_4 : Int) (a1 : Int) : Option (Int × Int × Int × Int) := (codec_grid_across.f a0_0 a0_1 a0_2 a0_3 a0_4).bind fun t162 => (if t162 = 0 then (none) else ((codec_grid_across.f a0_0 a0_1 a0_2 a0_3 a0_4).bind fun t163 => (if t163 = 0 then (none) else (some (wrap64 ((Int.tmod a1 t162) * a0_4), wrap64 ((wrap64 (Int.tdiv a1 t163)) * a0_4), mn (wrap64 ((wrap64 ((Int.tmod a1 t162) * a0_4)) + a0_4)) a0_2, mn (wrap64 ((wrap64 ((wrap64 (Int.tdiv a1 t163)) * a0_4)) + a0_4)) a0_3)))))
def codec_grid_rect.T1 : Bool × List (List Nat × List Nat) := (true, [([], []), ([], []), ([1], [1]), ([0, 2], [0, 2]), ([], []), ([4], [4]), ([5], [5]), ([3, 6], [3, 6]), ([], []), ([], []), ([9, 2], [9]), ([8, 10], [8, 10]), ([], []), ([12], [12]), ([13], [13]), ([11, 14], [11, 14]), ([7, 10, 0, 1, 2, 3, 4, 5, 6, 7], [7]), ([15, 16, 0, 1, 2, 3, 4, 5, 6, 7, 8, 9, 10, 11, 12, 13, 14, 15, 16], [15])])
def codec_grid_rect.B1 : List Nat := [0, 0, 2, 7, 0, 16, 48, 127, 0, 0, 518, 1798, 0, 4096, 12288, 32518, 1791, 131071]
theorem codec_grid_rect.tab1 : rtab .any (opsOf Try.f68 1) = codec_grid_rect.T1 := by kernel_rfl
theorem codec_grid_rect.bits1 : waitsOk codec_grid_rect.T1.2 codec_grid_rect.B1 = true := by kernel_rfl
set_option maxHeartbeats 8000000 in
set_option maxRecDepth 100000 in
theorem codec_grid_rect.calls (a0_0 : Int) (a0_1 : Int) (a0_2 : Int) (a0_3 : Int) (a0_4 : Int) (a1 : Int) (r1 : Int) (r2 : Int) (r3 : Int) (r4 : Int) (w : World) (h : codec_grid_rect.f a0_0 a0_1 a0_2 a0_3 a0_4 a1 = some (r1, r2, r3, r4)) :
    Calls Try.prog 68 #[.agg #[.int .i64 a0_0, .int .i64 a0_1, .int .i64 a0_2, .int .i64 a0_3, .int .i64 a0_4], .int .i64 a1] w fun e w' => e = .returned (.agg #[.int .i64 r1, .int .i64 r2, .int .i64 r3, .int .i64 r4]) ∧ Below w.heap.size w w' := by
 have hu105 := Try.underlying105
 have hu73 := Try.underlying73
 have HB := Aside0.mk (Below.refl w.heap.size w)
 have H : ((codec_grid_across.f a0_0 a0_1 a0_2 a0_3 a0_4).bind fun t162 => (if t162 = 0 then (none) else ((codec_grid_across.f a0_0 a0_1 a0_2 a0_3 a0_4).bind fun t163 => (if t163 = 0 then (none) else (some (wrap64 ((Int.tmod a1 t162) * a0_4), wrap64 ((wrap64 (Int.tdiv a1 t163)) * a0_4), mn (wrap64 ((wrap64 ((Int.tmod a1 t162) * a0_4)) + a0_4)) a0_2, mn (wrap64 ((wrap64 ((wrap64 (Int.tdiv a1 t163)) * a0_4)) + a0_4)) a0_3)))))) = some (r1, r2, r3, r4) := h
 clear h
 replace H := Option.bind_eq_some_iff.mp H
 obtain ⟨t162, A30, H⟩ := H
 replace H : (if t162 = 0 then (none) else ((codec_grid_across.f a0_0 a0_1 a0_2 a0_3 a0_4).bind fun t163 => (if t163 = 0 then (none) else (some (wrap64 ((Int.tmod a1 t162) * a0_4), wrap64 ((wrap64 (Int.tdiv a1 t163)) * a0_4), mn (wrap64 ((wrap64 ((Int.tmod a1 t162) * a0_4)) + a0_4)) a0_2, mn (wrap64 ((wrap64 ((wrap64 (Int.tdiv a1 t163)) * a0_4)) + a0_4)) a0_3))))) = some (r1, r2, r3, r4) := H
 have A3 := Aside0.mk A30
 clear A30
 by_cases c4 : t162 = 0
 ·rw [if_pos c4] at H
  exact absurd H (by simp)
 ·rw [if_neg c4] at H
  have c4b0 : (t162 == 0) = false := beq_eq_false_iff_ne.mpr c4
  have c4b1 : (t162 != 0) = true := bne_iff_ne.mpr c4
  replace H := Option.bind_eq_some_iff.mp H
  obtain ⟨t163, A50, H⟩ := H
  replace H : (if t163 = 0 then (none) else (some (wrap64 ((Int.tmod a1 t162) * a0_4), wrap64 ((wrap64 (Int.tdiv a1 t163)) * a0_4), mn (wrap64 ((wrap64 ((Int.tmod a1 t162) * a0_4)) + a0_4)) a0_2, mn (wrap64 ((wrap64 ((wrap64 (Int.tdiv a1 t163)) * a0_4)) + a0_4)) a0_3))) = some (r1, r2, r3, r4) := H
  have A5 := Aside0.mk A50
  clear A50
  by_cases c6 : t163 = 0
  ·rw [if_pos c6] at H
   exact absurd H (by simp)
  ·rw [if_neg c6] at H
   have c6b0 : (t163 == 0) = false := beq_eq_false_iff_ne.mpr c6
   have c6b1 : (t163 != 0) = true := bne_iff_ne.mpr c6
   obtain ⟨ji7, hji7⟩ : ∃ j_ : Int, (mn (wrap64 ((wrap64 ((Int.tmod a1 t162) * a0_4)) + a0_4)) a0_2) = j_ := ⟨_, rfl⟩
   replace H : (some (wrap64 ((Int.tmod a1 t162) * a0_4), wrap64 ((wrap64 (Int.tdiv a1 t163)) * a0_4), ji7, mn (wrap64 ((wrap64 ((wrap64 (Int.tdiv a1 t163)) * a0_4)) + a0_4)) a0_3)) = some (r1, r2, r3, r4) := by first | (rw [hji7] at H; exact H) | (simp only [hji7] at H ⊢; exact H)
   (try rw [hji7] at A3)
   (try rw [hji7] at A5)
   have hji7_ : (if a0_2 < (wrap64 ((wrap64 ((Int.tmod a1 t162) * a0_4)) + a0_4)) then a0_2 else (wrap64 ((wrap64 ((Int.tmod a1 t162) * a0_4)) + a0_4))) = ji7 := hji7
   obtain ⟨ji8, hji8⟩ : ∃ j_ : Int, (mn (wrap64 ((wrap64 ((wrap64 (Int.tdiv a1 t163)) * a0_4)) + a0_4)) a0_3) = j_ := ⟨_, rfl⟩
   replace H : (some (wrap64 ((Int.tmod a1 t162) * a0_4), wrap64 ((wrap64 (Int.tdiv a1 t163)) * a0_4), ji7, ji8)) = some (r1, r2, r3, r4) := by first | (rw [hji8] at H; exact H) | (simp only [hji8] at H ⊢; exact H)
   (try rw [hji8] at A3)
   (try rw [hji8] at A5)
   have hji8_ : (if a0_3 < (wrap64 ((wrap64 ((wrap64 (Int.tdiv a1 t163)) * a0_4)) + a0_4)) then a0_3 else (wrap64 ((wrap64 ((wrap64 (Int.tdiv a1 t163)) * a0_4)) + a0_4))) = ji8 := hji8
   simp only [Option.some.injEq, Prod.mk.injEq] at H
   obtain ⟨rfl, rfl, rfl, rfl⟩ := H
   go_enter Try.func68, Try.ntmps68
   try go_wp2_with (first | ((with_reducible refine gate_dst (N := 2) rfl ?_); refine box_event ?hg (N := 2) ?hd (cs := #[.int .i64 a0_0, .int .i64 a0_1, .int .i64 a0_2, .int .i64 a0_3, .int .i64 a0_4]) (t := 105) ?hr ?_; (case hd => rfl); (case hg => rfl); (case hr => first | (go_simp; done) | (go_simp; rfl)); intro gb160 hg w9 hbox hb; have n0_ := Aside0.mk (below_step (by repeat (first | (with_reducible first | exact HB.out | apply below_alloc | apply pw_below_drewN | apply below_drew1) | exact HB.out)) hb); have n1_ := Aside0.mk (hbox); have n2_ := Aside0.mk ((by rw [hg]; exact (below_size (by repeat (first | (with_reducible first | exact HB.out | apply below_alloc | apply pw_below_drewN | apply below_drew1) | exact HB.out))) : w.heap.size ≤ gb160)); have n3_ := Aside0.mk ((by rw [hg]; exact (below_size (by repeat (first | (with_reducible first | exact HB.out | apply below_alloc | apply pw_below_drewN | apply below_drew1) | exact HB.out))) : w.heap.size ≤ gb160)); clear HB; have HB := n0_; have BK160 := n1_; have GW160 := n2_; have GE160 := n3_; clear n0_ n1_ n2_ n3_; clear hb hbox hg) | ((with_reducible refine gate_dst (N := 4) rfl ?_); refine box_event ?hg (N := 4) ?hd (cs := #[.int .i64 0, .int .i64 0, .int .i64 0, .int .i64 0]) (t := 73) ?hr ?_; (case hd => rfl); (case hg => rfl); (case hr => first | (go_simp; done) | (go_simp; rfl)); intro gb161 hg w10 hbox hb; have n0_ := Aside0.mk (blk_below (g := gb160) (o := .cells #[.int .i64 a0_0, .int .i64 a0_1, .int .i64 a0_2, .int .i64 a0_3, .int .i64 a0_4] 105 (0, 0)) (by (with_reducible repeat (first | refine blk_drewN ?_ _ | refine blk_drew ?_ | refine blk_alloc ?_ _)); exact BK160.out) hb); have n1_ := Aside0.mk (below_step (by repeat (first | (with_reducible first | exact HB.out | apply below_alloc | apply pw_below_drewN | apply below_drew1 | refine below_set ?_ GE160.out) | exact HB.out)) hb); have n2_ := Aside0.mk (hbox); have n3_ := Aside0.mk ((by rw [hg]; exact (below_size (by repeat (first | (with_reducible first | exact HB.out | apply below_alloc | apply pw_below_drewN | apply below_drew1 | refine below_set ?_ GE160.out) | exact HB.out))) : w.heap.size ≤ gb161)); have n4_ := Aside0.mk ((by rw [hg]; exact (below_size (by repeat (first | (with_reducible first | exact HB.out | apply below_alloc | apply pw_below_drewN | apply below_drew1 | refine below_set ?_ GE160.out) | exact HB.out))) : w.heap.size ≤ gb161)); have n5_ := Aside0.mk ((by rw [hg]; exact Nat.ne_of_lt (blk_lt (g := gb160) (o := .cells #[.int .i64 a0_0, .int .i64 a0_1, .int .i64 a0_2, .int .i64 a0_3, .int .i64 a0_4] 105 (0, 0)) (by (with_reducible repeat (first | refine blk_drewN ?_ _ | refine blk_drew ?_ | refine blk_alloc ?_ _)); exact BK160.out)) : gb160 ≠ gb161)); have n6_ := Aside0.mk ((by rw [hg]; exact Nat.ne_of_gt (blk_lt (g := gb160) (o := .cells #[.int .i64 a0_0, .int .i64 a0_1, .int .i64 a0_2, .int .i64 a0_3, .int .i64 a0_4] 105 (0, 0)) (by (with_reducible repeat (first | refine blk_drewN ?_ _ | refine blk_drew ?_ | refine blk_alloc ?_ _)); exact BK160.out)) : gb161 ≠ gb160)); clear BK160; clear HB; have BK160 := n0_; have HB := n1_; have BK161 := n2_; have GW161 := n3_; have GE161 := n4_; have NB160_161 := n5_; have NB161_160 := n6_; clear n0_ n1_ n2_ n3_ n4_ n5_ n6_; clear hb hbox hg))
   have n0_ := Aside0.mk (blk_drew BK160.out)
   have n1_ := Aside0.mk (blk_drew BK161.out)
   have n2_ := Aside0.mk (below_drew1 HB.out)
   clear BK160
   clear BK161
   clear HB
   have BK160 := n0_
   have BK161 := n1_
   have HB := n2_
   clear n0_ n1_ n2_
   refine start_ (n := 18) (S := fun w' => w'.cell? ⟨gb160, 0, none⟩ = some (.int .i64 a0_0) ∧ w'.cell? ⟨gb160, 1, none⟩ = some (.int .i64 a0_1) ∧ w'.cell? ⟨gb160, 2, none⟩ = some (.int .i64 a0_2) ∧ w'.cell? ⟨gb160, 3, none⟩ = some (.int .i64 a0_3) ∧ w'.cell? ⟨gb160, 4, none⟩ = some (.int .i64 a0_4)) (ds := []) #[ff_,ff_,ff_,ff_,ff_,ff_,ff_,ff_,ff_,ff_,ff_,ff_,ff_,ff_,ff_,ff_,ff_,ff_] (by kernel_rfl) rfl rfl ⟨(blk_cell BK160.out 0).trans rfl, (blk_cell BK160.out 1).trans rfl, (blk_cell BK160.out 2).trans rfl, (blk_cell BK160.out 3).trans rfl, (blk_cell BK160.out 4).trans rfl⟩ (fun hHeld => ?_); refine with_tabW codec_grid_rect.tab1 codec_grid_rect.bits1 (fun HT_ HW_ => ?_)
   generalize w10.drew = w11 at BK160 BK161 HB hHeld ⊢
   refine pure_ (i := 0) (N := some 7) (v := ?_) (a' := ?_) #[tt_,ff_,ff_,ff_,ff_,ff_,ff_,ff_,ff_,ff_,ff_,ff_,ff_,ff_,ff_,ff_,ff_,ff_] rfl rfl (any_of HT_.out (by kernel_rfl)) (fun _ _ _ h => h) (Or.inl ⟨by rfl, ?_⟩) ?_ ?_
   rotate_left
   ·intro w'
    go_simp
    with_reducible rfl
   rotate_left
   ·simp only [Act.put, List.setIfInBounds_toArray, List.set_cons_zero, List.set_cons_succ, i64_w, i32_w]
    rfl
   refine pure_ (i := 4) (N := some 11) (v := ?_) (a' := ?_) #[tt_,ff_,ff_,ff_,tt_,ff_,ff_,ff_,ff_,ff_,ff_,ff_,ff_,ff_,ff_,ff_,ff_,ff_] rfl rfl (any_of HT_.out (by kernel_rfl)) (fun _ _ _ h => h) (Or.inl ⟨by rfl, ?_⟩) ?_ ?_
   rotate_left
   ·intro w'
    go_simp
    with_reducible rfl
   rotate_left
   ·simp only [Act.put, List.setIfInBounds_toArray, List.set_cons_zero, List.set_cons_succ, i64_w, i32_w]
    rfl
   refine pure_ (i := 5) (N := some 12) (v := ?_) (a' := ?_) #[tt_,ff_,ff_,ff_,tt_,tt_,ff_,ff_,ff_,ff_,ff_,ff_,ff_,ff_,ff_,ff_,ff_,ff_] rfl rfl (any_of HT_.out (by kernel_rfl)) (fun _ _ _ h => h) (Or.inl ⟨by rfl, ?_⟩) ?_ ?_
   rotate_left
   ·intro w'
    go_simp
    with_reducible rfl
   rotate_left
   ·simp only [Act.put, List.setIfInBounds_toArray, List.set_cons_zero, List.set_cons_succ, i64_w, i32_w]
    rfl
   refine pure_ (i := 8) (N := some 15) (v := ?_) (a' := ?_) #[tt_,ff_,ff_,ff_,tt_,tt_,ff_,ff_,tt_,ff_,ff_,ff_,ff_,ff_,ff_,ff_,ff_,ff_] rfl rfl (any_of HT_.out (by kernel_rfl)) (fun _ _ _ h => h) (Or.inl ⟨by rfl, ?_⟩) ?_ ?_
   rotate_left
   ·intro w'
    go_simp
    with_reducible rfl
   rotate_left
   ·simp only [Act.put, List.setIfInBounds_toArray, List.set_cons_zero, List.set_cons_succ, i64_w, i32_w]
    rfl
   refine pure_ (i := 12) (N := some 19) (v := ?_) (a' := ?_) #[tt_,ff_,ff_,ff_,tt_,tt_,ff_,ff_,tt_,ff_,ff_,ff_,tt_,ff_,ff_,ff_,ff_,ff_] rfl rfl (any_of HT_.out (by kernel_rfl)) (fun _ _ _ h => h) (Or.inl ⟨by rfl, ?_⟩) ?_ ?_
   rotate_left
   ·intro w'
    go_simp
    with_reducible rfl
   rotate_left
   ·simp only [Act.put, List.setIfInBounds_toArray, List.set_cons_zero, List.set_cons_succ, i64_w, i32_w]
    rfl
   refine pure_ (i := 13) (N := some 20) (v := ?_) (a' := ?_) #[tt_,ff_,ff_,ff_,tt_,tt_,ff_,ff_,tt_,ff_,ff_,ff_,tt_,tt_,ff_,ff_,ff_,ff_] rfl rfl (any_of HT_.out (by kernel_rfl)) (fun _ _ _ h => h) (Or.inl ⟨by rfl, ?_⟩) ?_ ?_
   rotate_left
   ·intro w'
    go_simp
    with_reducible rfl
   rotate_left
   ·simp only [Act.put, List.setIfInBounds_toArray, List.set_cons_zero, List.set_cons_succ, i64_w, i32_w]
    rfl
   refine take_ (i := 1) (N := some 8) (v := ?_) (a' := ?_) #[tt_,tt_,ff_,ff_,tt_,tt_,ff_,ff_,tt_,ff_,ff_,ff_,tt_,tt_,ff_,ff_,ff_,ff_] rfl rfl (take_ofW HT_.out HW_.out (by kernel_rfl)) (fun _ _ _ h => h) (Or.inl ⟨by rfl, ?_⟩) hHeld ?_ ?_
   rotate_left
   ·rintro w' ⟨s0, s1, s2, s3, s4⟩
    go_simp
    with_reducible rfl
   rotate_left
   ·simp only [Act.put, List.setIfInBounds_toArray, List.set_cons_zero, List.set_cons_succ, i64_w, i32_w]
    rfl
   refine take_ (i := 6) (N := some 13) (v := ?_) (a' := ?_) #[tt_,tt_,ff_,ff_,tt_,tt_,tt_,ff_,tt_,ff_,ff_,ff_,tt_,tt_,ff_,ff_,ff_,ff_] rfl rfl (take_ofW HT_.out HW_.out (by kernel_rfl)) (fun _ _ _ h => h) (Or.inl ⟨by rfl, ?_⟩) hHeld ?_ ?_
   rotate_left
   ·rintro w' ⟨s0, s1, s2, s3, s4⟩
    go_simp
    with_reducible rfl
   rotate_left
   ·simp only [Act.put, List.setIfInBounds_toArray, List.set_cons_zero, List.set_cons_succ, i64_w, i32_w]
    rfl
   refine take_ (i := 9) (N := some 16) (v := ?_) (a' := ?_) #[tt_,tt_,ff_,ff_,tt_,tt_,tt_,ff_,tt_,tt_,ff_,ff_,tt_,tt_,ff_,ff_,ff_,ff_] rfl rfl (take_ofW HT_.out HW_.out (by kernel_rfl)) (fun _ _ _ h => h) (Or.inl ⟨by rfl, ?_⟩) hHeld ?_ ?_
   rotate_left
   ·rintro w' ⟨s0, s1, s2, s3, s4⟩
    go_simp
    with_reducible rfl
   rotate_left
   ·simp only [Act.put, List.setIfInBounds_toArray, List.set_cons_zero, List.set_cons_succ, i64_w, i32_w]
    rfl
   refine take_ (i := 14) (N := some 21) (v := ?_) (a' := ?_) #[tt_,tt_,ff_,ff_,tt_,tt_,tt_,ff_,tt_,tt_,ff_,ff_,tt_,tt_,tt_,ff_,ff_,ff_] rfl rfl (take_ofW HT_.out HW_.out (by kernel_rfl)) (fun _ _ _ h => h) (Or.inl ⟨by rfl, ?_⟩) hHeld ?_ ?_
   rotate_left
   ·rintro w' ⟨s0, s1, s2, s3, s4⟩
    go_simp
    with_reducible rfl
   rotate_left
   ·simp only [Act.put, List.setIfInBounds_toArray, List.set_cons_zero, List.set_cons_succ, i64_w, i32_w]
    rfl
   refine one_ (i := 2) (N := some 9) #[tt_,tt_,tt_,ff_,tt_,tt_,tt_,ff_,tt_,tt_,ff_,ff_,tt_,tt_,tt_,ff_,ff_,ff_] rfl rfl (one_of HT_.out (by kernel_rfl)) (by decide) (fun K hK => ?_)
   refine goes_ Try.func85 (by kernel_rfl) rfl #[.agg #[.int .i64 a0_0, .int .i64 a0_1, .int .i64 a0_2, .int .i64 a0_3, .int .i64 a0_4]] (by rfl) rfl rfl (by (try simp only [List.map_toArray, List.map_cons, List.map_nil]); first | done | rfl | (simp only [List.length_drop, List.length_take]; rfl)) ?_
   with_reducible refine (codec_grid_across.calls a0_0 a0_1 a0_2 a0_3 a0_4 t162 _ A3.out).mono ?_
   rintro e w12 ⟨rfl, hb⟩
   refine ⟨_, rfl, ?_⟩
   have n0_ := Aside0.mk (blk_below (g := gb160) (o := .cells #[.int .i64 a0_0, .int .i64 a0_1, .int .i64 a0_2, .int .i64 a0_3, .int .i64 a0_4] 105 (0, 0)) (by (with_reducible repeat (first | refine blk_drewN ?_ _ | refine blk_drew ?_ | refine blk_alloc ?_ _)); exact BK160.out) hb)
   have n1_ := Aside0.mk (blk_below (g := gb161) (o := .cells #[.int .i64 0, .int .i64 0, .int .i64 0, .int .i64 0] 73 (0, 0)) (by (with_reducible repeat (first | refine blk_drewN ?_ _ | refine blk_drew ?_ | refine blk_alloc ?_ _)); exact BK161.out) hb)
   have n2_ := Aside0.mk (below_step (by repeat (first | (with_reducible first | exact HB.out | apply below_alloc | apply pw_below_drewN | apply below_drew1 | refine below_set ?_ GE160.out | refine below_set ?_ GE161.out) | exact HB.out)) hb)
   clear BK160
   clear BK161
   clear HB
   have BK160 := n0_
   have BK161 := n1_
   have HB := n2_
   clear n0_ n1_ n2_
   (try clear hb)
   (try clear hb2)
   (try clear hk)
   (try clear hi)
   refine hK.out _ _ ⟨(blk_cell BK160.out 0).trans rfl, (blk_cell BK160.out 1).trans rfl, (blk_cell BK160.out 2).trans rfl, (blk_cell BK160.out 3).trans rfl, (blk_cell BK160.out 4).trans rfl⟩ (fun hHeld => ?_)
   clear hK K
   refine norm_ (a' := ?_) ?_ ?_
   rotate_left
   ·show Act.put _ (some 9) _ = _
    simp only [Act.put, List.setIfInBounds_toArray, List.set_cons_zero, List.set_cons_succ, i64_w, i32_w]
    rfl
   refine pure_ (i := 3) (N := some 10) (v := ?_) (a' := ?_) #[tt_,tt_,tt_,tt_,tt_,tt_,tt_,ff_,tt_,tt_,ff_,ff_,tt_,tt_,tt_,ff_,ff_,ff_] rfl rfl (any_of HT_.out (by kernel_rfl)) (fun _ _ _ h => h) (Or.inl ⟨by rfl, ?_⟩) ?_ ?_
   rotate_left
   ·intro w'
    go_simp
    with_reducible rfl
   rotate_left
   ·simp only [Act.put, List.setIfInBounds_toArray, List.set_cons_zero, List.set_cons_succ, i64_w, i32_w]
    rfl
   refine pure_ (i := 7) (N := some 14) (v := ?_) (a' := ?_) #[tt_,tt_,tt_,tt_,tt_,tt_,tt_,tt_,tt_,tt_,ff_,ff_,tt_,tt_,tt_,ff_,ff_,ff_] rfl rfl (any_of HT_.out (by kernel_rfl)) (fun _ _ _ h => h) (Or.inl ⟨by rfl, ?_⟩) ?_ ?_
   rotate_left
   ·intro w'
    go_simp
    with_reducible rfl
   rotate_left
   ·simp only [Act.put, List.setIfInBounds_toArray, List.set_cons_zero, List.set_cons_succ, i64_w, i32_w]
    rfl
   refine one_ (i := 10) (N := some 17) #[tt_,tt_,tt_,tt_,tt_,tt_,tt_,tt_,tt_,tt_,tt_,ff_,tt_,tt_,tt_,ff_,ff_,ff_] rfl rfl (one_of HT_.out (by kernel_rfl)) (by decide) (fun K hK => ?_)
   refine goes_ Try.func85 (by kernel_rfl) rfl #[.agg #[.int .i64 a0_0, .int .i64 a0_1, .int .i64 a0_2, .int .i64 a0_3, .int .i64 a0_4]] (by rfl) rfl rfl (by (try simp only [List.map_toArray, List.map_cons, List.map_nil]); first | done | rfl | (simp only [List.length_drop, List.length_take]; rfl)) ?_
   with_reducible refine (codec_grid_across.calls a0_0 a0_1 a0_2 a0_3 a0_4 t163 _ A5.out).mono ?_
   rintro e w13 ⟨rfl, hb⟩
   refine ⟨_, rfl, ?_⟩
   have n0_ := Aside0.mk (blk_below (g := gb160) (o := .cells #[.int .i64 a0_0, .int .i64 a0_1, .int .i64 a0_2, .int .i64 a0_3, .int .i64 a0_4] 105 (0, 0)) (by (with_reducible repeat (first | refine blk_drewN ?_ _ | refine blk_drew ?_ | refine blk_alloc ?_ _)); exact BK160.out) hb)
   have n1_ := Aside0.mk (blk_below (g := gb161) (o := .cells #[.int .i64 0, .int .i64 0, .int .i64 0, .int .i64 0] 73 (0, 0)) (by (with_reducible repeat (first | refine blk_drewN ?_ _ | refine blk_drew ?_ | refine blk_alloc ?_ _)); exact BK161.out) hb)
   have n2_ := Aside0.mk (below_step (by repeat (first | (with_reducible first | exact HB.out | apply below_alloc | apply pw_below_drewN | apply below_drew1 | refine below_set ?_ GE160.out | refine below_set ?_ GE161.out) | exact HB.out)) hb)
   clear BK160
   clear BK161
   clear HB
   have BK160 := n0_
   have BK161 := n1_
   have HB := n2_
   clear n0_ n1_ n2_
   (try clear hb)
   (try clear hb2)
   (try clear hk)
   (try clear hi)
   refine hK.out _ _ ⟨(blk_cell BK160.out 0).trans rfl, (blk_cell BK160.out 1).trans rfl, (blk_cell BK160.out 2).trans rfl, (blk_cell BK160.out 3).trans rfl, (blk_cell BK160.out 4).trans rfl⟩ (fun hHeld => ?_)
   clear hK K
   refine norm_ (a' := ?_) ?_ ?_
   rotate_left
   ·show Act.put _ (some 17) _ = _
    simp only [Act.put, List.setIfInBounds_toArray, List.set_cons_zero, List.set_cons_succ, i64_w, i32_w]
    rfl
   refine pure_ (i := 11) (N := some 18) (v := ?_) (a' := ?_) #[tt_,tt_,tt_,tt_,tt_,tt_,tt_,tt_,tt_,tt_,tt_,tt_,tt_,tt_,tt_,ff_,ff_,ff_] rfl rfl (any_of HT_.out (by kernel_rfl)) (fun _ _ _ h => h) (Or.inl ⟨by rfl, ?_⟩) ?_ ?_
   rotate_left
   ·intro w'
    go_simp
    with_reducible rfl
   rotate_left
   ·simp only [Act.put, List.setIfInBounds_toArray, List.set_cons_zero, List.set_cons_succ, i64_w, i32_w]
    rfl
   refine pure_ (i := 15) (N := some 22) (v := ?_) (a' := ?_) #[tt_,tt_,tt_,tt_,tt_,tt_,tt_,tt_,tt_,tt_,tt_,tt_,tt_,tt_,tt_,tt_,ff_,ff_] rfl rfl (any_of HT_.out (by kernel_rfl)) (fun _ _ _ h => h) (Or.inl ⟨by rfl, ?_⟩) ?_ ?_
   rotate_left
   ·intro w'
    go_simp
    with_reducible rfl
   rotate_left
   ·simp only [Act.put, List.setIfInBounds_toArray, List.set_cons_zero, List.set_cons_succ, i64_w, i32_w]
    rfl
   refine pure_ (i := 16) (N := some 5) (v := ?_) (a' := ?_) #[tt_,tt_,tt_,tt_,tt_,tt_,tt_,tt_,tt_,tt_,tt_,tt_,tt_,tt_,tt_,tt_,tt_,ff_] rfl rfl (any_of HT_.out (by kernel_rfl)) (fun _ _ _ h => h) (Or.inl ⟨by rfl, ?_⟩) ?_ ?_
   rotate_left
   ·intro w'
    go_simp
    with_reducible rfl
   rotate_left
   ·simp only [Act.put, List.setIfInBounds_toArray, List.set_cons_zero, List.set_cons_succ, i64_w, i32_w]
    rfl
   refine pure_ (i := 17) (N := some 6) (v := ?_) (a' := ?_) #[tt_,tt_,tt_,tt_,tt_,tt_,tt_,tt_,tt_,tt_,tt_,tt_,tt_,tt_,tt_,tt_,tt_,tt_] rfl rfl (any_of HT_.out (by kernel_rfl)) (fun _ _ _ h => h) (Or.inl ⟨by rfl, ?_⟩) ?_ ?_
   rotate_left
   ·intro w'
    go_simp
    with_reducible rfl
   rotate_left
   ·simp only [Act.put, List.setIfInBounds_toArray, List.set_cons_zero, List.set_cons_succ, i64_w, i32_w]
    rfl
   refine done_ (done_of HT_.out (by kernel_rfl)) ?_
   have hnb14 := NB160_161.out
   have hnc14 := NB161_160.out
   have hcz15_0 : w13.cell? ⟨gb160, 0, none⟩ = some (.int .i64 a0_0) := (blk_cell BK160.out 0).trans rfl
   have hcz15_1 : w13.cell? ⟨gb160, 1, none⟩ = some (.int .i64 a0_1) := (blk_cell BK160.out 1).trans rfl
   have hcz15_2 : w13.cell? ⟨gb160, 2, none⟩ = some (.int .i64 a0_2) := (blk_cell BK160.out 2).trans rfl
   have hcz15_3 : w13.cell? ⟨gb160, 3, none⟩ = some (.int .i64 a0_3) := (blk_cell BK160.out 3).trans rfl
   have hcz15_4 : w13.cell? ⟨gb160, 4, none⟩ = some (.int .i64 a0_4) := (blk_cell BK160.out 4).trans rfl
   have hfz15_0 := blk_frozen BK160.out 0
   have hfz15_1 := blk_frozen BK160.out 1
   have hfz15_2 := blk_frozen BK160.out 2
   have hfz15_3 := blk_frozen BK160.out 3
   have hfz15_4 := blk_frozen BK160.out 4
   have hcz16_0 : w13.cell? ⟨gb161, 0, none⟩ = some (.int .i64 0) := (blk_cell BK161.out 0).trans rfl
   have hcz16_1 : w13.cell? ⟨gb161, 1, none⟩ = some (.int .i64 0) := (blk_cell BK161.out 1).trans rfl
   have hcz16_2 : w13.cell? ⟨gb161, 2, none⟩ = some (.int .i64 0) := (blk_cell BK161.out 2).trans rfl
   have hcz16_3 : w13.cell? ⟨gb161, 3, none⟩ = some (.int .i64 0) := (blk_cell BK161.out 3).trans rfl
   have hfz16_0 := blk_frozen BK161.out 0
   have hfz16_1 := blk_frozen BK161.out 1
   have hfz16_2 := blk_frozen BK161.out 2
   have hfz16_3 := blk_frozen BK161.out 3
   try go_wp2
   refine bodyPost_ret (results_cell_row rfl _ _ gb161 73 #[.int .i64 (wrap64 ((Int.tmod a1 t162) * a0_4)), .int .i64 (wrap64 ((wrap64 (Int.tdiv a1 t163)) * a0_4)), .int .i64 ji7, .int .i64 ji8] (0, 0) _ rfl (by (with_reducible repeat (first | refine blk_drewN ?_ _ | refine blk_drew ?_ | refine blk_alloc ?_ _)); refine blk_put (cs := #[.int .i64 (wrap64 ((Int.tmod a1 t162) * a0_4)), .int .i64 (wrap64 ((wrap64 (Int.tdiv a1 t163)) * a0_4)), .int .i64 ji7, .int .i64 0]) ?_ 3 _ rfl; (with_reducible repeat (first | refine blk_drewN ?_ _ | refine blk_drew ?_ | refine blk_alloc ?_ _)); refine blk_put (cs := #[.int .i64 (wrap64 ((Int.tmod a1 t162) * a0_4)), .int .i64 (wrap64 ((wrap64 (Int.tdiv a1 t163)) * a0_4)), .int .i64 0, .int .i64 0]) ?_ 2 _ rfl; (with_reducible repeat (first | refine blk_drewN ?_ _ | refine blk_drew ?_ | refine blk_alloc ?_ _)); refine blk_put (cs := #[.int .i64 (wrap64 ((Int.tmod a1 t162) * a0_4)), .int .i64 0, .int .i64 0, .int .i64 0]) ?_ 1 _ rfl; (with_reducible repeat (first | refine blk_drewN ?_ _ | refine blk_drew ?_ | refine blk_alloc ?_ _)); refine blk_put (cs := #[.int .i64 0, .int .i64 0, .int .i64 0, .int .i64 0]) ?_ 0 _ rfl; (with_reducible repeat (first | refine blk_drewN ?_ _ | refine blk_drew ?_ | refine blk_alloc ?_ _)); exact BK161.out) Try.underlying73 rfl (by kernel_rfl)) rfl ?_
   exact ⟨by first | rfl | (simp [errW_none, errW_some] <;> rfl) | (simp only [← hji7, ← hji8]; first | rfl | (simp [errW_none, errW_some] <;> rfl)) | (simp [*, errW_none, errW_some] <;> rfl), by repeat (first | (with_reducible first | exact HB.out | apply below_alloc | apply pw_below_drewN | apply below_drew1 | refine below_set ?_ GE160.out | refine below_set ?_ GE161.out) | exact HB.out)⟩

def coder_begins.f  : Option (Int × Int) := some (16, 1)
def coder_Fold.f (a0 : Int) : Option (Int) := some (Go.bits .xor .u32 ((a0 * 2) % 4294967296) (((wrap32 (a0)) / 2147483648) % 4294967296))
def codec_number.l0 : Nat → Int → List Int → Int → Int → Option (Int)
 | 0, _, _, _, _ => none
 | k + 1, x3, x6, x7, x8 => if x8 < x7 then (if 0 ≤ x8 then (if x8 < (x6.length : Int) then (codec_number.l0 k (Go.bits .or .i64 (wrap64 (x3 * 256)) (wrap64 (rd x6 x8))) x6 x7 (wrap64 (x8 + 1))) else (none)) else (none)) else (some x3)
def codec_number.f (k : Nat) (l0 : List Int) : Option (Int) := codec_number.l0 k 0 l0 (l0.length : Int) 0
theorem codec_number.mono_l : ∀ k, (∀ y0 y1 y2 y3, LeO (codec_number.l0 k y0 y1 y2 y3) (codec_number.l0 (k + 1) y0 y1 y2 y3))
 | 0 => fun _ _ _ _ r h => by simp [codec_number.l0] at h
 | k + 1 => by
  have ih0 := codec_number.mono_l k
  ·intro y0 y1 y2 y3
   unfold codec_number.l0
   repeat' first
   | (with_reducible exact ih0 _ _ _ _)
   | (with_reducible exact LeO.refl _)
   | (with_reducible exact LeO.none _)
   | (with_reducible refine LeO.ite ?_ ?_)
   | (with_reducible refine LeO.bind ?_ (fun _ => ?_))
   | exact ih0 _ _ _ _
   | exact LeO.none _
   | refine LeO.ite ?_ ?_
   | refine LeO.bind ?_ (fun _ => ?_)
theorem codec_number.mono : ∀ a0 k, LeO (codec_number.f k a0) (codec_number.f (k + 1) a0) := by
 intro a0 k
 have ih0 := codec_number.mono_l k
 unfold codec_number.f
 repeat' first
     | (with_reducible exact ih0 _ _ _ _)
     | (with_reducible exact LeO.refl _)
     | (with_reducible exact LeO.none _)
     | (with_reducible refine LeO.ite ?_ ?_)
     | (with_reducible refine LeO.bind ?_ (fun _ => ?_))
     | exact ih0 _ _ _ _
     | exact LeO.none _
     | refine LeO.ite ?_ ?_
     | refine LeO.bind ?_ (fun _ => ?_)
set_option maxHeartbeats 8000000 in
set_option maxRecDepth 100000 in
theorem codec_number.calls (k : Nat) (A0 : Option Addr) (c0 : Nat) (l0 : List Int) (r : Int) (w : World) (hr0 : Kd.C (Kd.int .u8) w A0 l0.length l0) (hc0 : l0.length ≤ c0) (h : codec_number.f k l0 = some r) :
    Calls Try.prog 94 #[.slice A0 l0.length c0] w fun e w' => e = .returned (.int .i64 r) ∧ Drawn0 w w' := by
 have HR0 := Aside0.mk hr0
 have HC0 := Aside0.mk hc0
 clear hr0 hc0
 have H : (codec_number.l0 k 0 l0 (l0.length : Int) 0) = some r := h
 clear h
 have H' := Aside0.mk H
 clear H
 go_enter Try.func94, Try.ntmps94
 go_wp2
 go_loopg [3, 8] k (fun kq v3 v8 w' => ∃ (x3_1 : Int) (x8_1 : Int), v3 = .int .i64 x3_1 ∧ v8 = .int .i64 x8_1 ∧ Aside0 (codec_number.l0 kq x3_1 l0 (l0.length : Int) x8_1 = some r) ∧ Aside0 (kq ≤ k) ∧ Drawn0 w w')
 case atStart => exact ⟨(0), (0), (by first | rfl | (simp; done) | (simp [*]; done)), (by first | rfl | (simp; done) | (simp [*]; done)), H', ⟨Nat.le_refl _⟩, by repeat (first | exact Drawn0.refl _ | apply Drawn0.step)⟩
 case round =>
  clear H'
  obtain ⟨x3_1, x8_1, rfl, rfl, HA, HK1, ⟨m1, rfl⟩⟩ := hrel
  cases gk with
  | zero => exact absurd HA.out (by simp [codec_number.l0])
  | succ k1 =>
   have H := HA.out
   clear HA
   simp only [codec_number.l0] at H
   by_cases c2 : x8_1 < (l0.length : Int)
   ·rw [if_pos c2] at H
    have c2b0 : decide (x8_1 < (l0.length : Int)) = true := decide_eq_true c2
    clear c2
    by_cases c3 : 0 ≤ x8_1
    ·rw [if_pos c3] at H
     have c3b0 : decide (0 ≤ x8_1) = true := decide_eq_true c3
     clear c3
     by_cases c4 : x8_1 < (l0.length : Int)
     ·rw [if_pos c4] at H
      have c4b0 : decide (x8_1 < (l0.length : Int)) = true := decide_eq_true c4
      clear c4
      have H' := Aside0.mk H
      clear H
      have p170 : 0 ≤ (x8_1 : Int) := of_decide_eq_true (by first | (with_reducible assumption) | assumption)
      have q170 : x8_1 < (l0.length : Int) := of_decide_eq_true (by first | (with_reducible assumption) | assumption)
      obtain ⟨ad170, e170, hx170_0⟩ := Kd.at_int HR0.out x8_1 p170 q170
      cases e170
      replace p170 := eq_true p170
      replace q170 := eq_true q170
      go_wp2
      go_roundg k1
      case measure => have := HK1.out; omega
      case rel => exact ⟨(Go.bits .or .i64 (wrap64 (x3_1 * 256)) (wrap64 (rd l0 x8_1))), (wrap64 (x8_1 + 1)), (by first | rfl | (simp; done) | (simp [*]; done)), (by first | rfl | (simp; done) | (simp [*]; done)), H', ⟨by have := HK1.out; omega⟩, by repeat (first | exact Drawn0.refl _ | apply Drawn0.step)⟩
     ·rw [if_neg c4] at H
      exact absurd H (by simp)
    ·rw [if_neg c3] at H
     exact absurd H (by simp)
   ·rw [if_neg c2] at H
    have c2b0 : decide (x8_1 < (l0.length : Int)) = false := decide_eq_false c2
    clear c2
    obtain rfl := Option.some.inj H
    go_wp2
    go_ret
    exact ⟨by first | rfl | (simp; done) | (simp [*]; done), by repeat (first | exact Drawn0.refl _ | apply Drawn0.step)⟩

-- NOT PRINTED: function 96 (plane_New)

-- NOT PRINTED: function 76 (picture_New)

-- NOT PRINTED: function 95 (codec_may)

-- NOT PRINTED: function 75 (codec_opened)

def coder_Unfold.f (a0 : Int) : Option (Int) := some (Go.bits .xor .u32 (a0 / 2) ((-(Go.bits .and .u32 a0 1)) % 4294967296))
/-- A state of type 168 at block g of W; what its slices lead to came in by w0. -/
def IsS168 (w0 W : World) (g : Nat) (f0 : Int) (f1 : Int) (f2 : List Int) (f3 : Int) : Prop := ∃ A2 c2, W.heap[g]? = some (.cells #[.int .u64 f0, .int .u64 f1, .slice A2 f2.length c2, .int .i64 f3] 168 (0, 0)) ∧ w0.heap.size ≤ g ∧ Kd.C (Kd.int .u8) w0 A2 f2.length f2
theorem IsS168.grown {w0 W : World} {g : Nat} {f0 : Int} {f1 : Int} {f2 : List Int} {f3 : Int} {W1 : World} {row : Option Nat} (h : IsS168 w0 W g f0 f1 f2 f3) (hw : W.grownBy W1 row) (hne : some g ≠ row) : IsS168 w0 W1 g f0 f1 f2 f3 := by
 obtain ⟨A2, c2, hb, hg, hr2⟩ := h
 exact ⟨A2, c2, blk_grown hb hw hne, hg, hr2⟩
theorem IsS168.kept {w0 W : World} {g : Nat} {f0 : Int} {f1 : Int} {f2 : List Int} {f3 : Int} {W1 : World} {S : Nat → Prop} (h : IsS168 w0 W g f0 f1 f2 f3) (hk : Kept W W1 S) (hne : ¬ S g) : IsS168 w0 W1 g f0 f1 f2 f3 := by
 obtain ⟨A2, c2, hb, hg, hr2⟩ := h
 exact ⟨A2, c2, blk_kept hb hk hne, hg, hr2⟩
theorem IsS168.below {w0 W : World} {g : Nat} {f0 : Int} {f1 : Int} {f2 : List Int} {f3 : Int} {W1 : World} (h : IsS168 w0 W g f0 f1 f2 f3) (hw : Below W.heap.size W W1) : IsS168 w0 W1 g f0 f1 f2 f3 := h.grown (grown_of_below hw none) (by simp)
theorem IsS168.alloc {w0 W : World} {g : Nat} {f0 : Int} {f1 : Int} {f2 : List Int} {f3 : Int} (h : IsS168 w0 W g f0 f1 f2 f3) (o : Obj) : IsS168 w0 (W.alloc o) g f0 f1 f2 f3 := h.below (below_alloc (Below.refl _ _) o)
theorem IsS168.drewN {w0 W : World} {g : Nat} {f0 : Int} {f1 : Int} {f2 : List Int} {f3 : Int} (h : IsS168 w0 W g f0 f1 f2 f3) (m : Nat) : IsS168 w0 (W.drewN m) g f0 f1 f2 f3 := h
theorem IsS168.drew {w0 W : World} {g : Nat} {f0 : Int} {f1 : Int} {f2 : List Int} {f3 : Int} (h : IsS168 w0 W g f0 f1 f2 f3) : IsS168 w0 W.drew g f0 f1 f2 f3 := h
theorem IsS168.at_ {w0 W : World} {g : Nat} {f0 : Int} {f1 : Int} {f2 : List Int} {f3 : Int} {w' : World} {m : Nat} (hq : W.drewN m = w') (h : IsS168 w0 W g f0 f1 f2 f3) : IsS168 w0 w' g f0 f1 f2 f3 := by subst hq; exact IsS168.drewN h m
theorem IsS168.apart {w0 W : World} {g : Nat} {f0 : Int} {f1 : Int} {f2 : List Int} {f3 : Int} {α : Type} {d : Kd α} {e : Nat} {base : Nat} {ok : Nat → Prop} {v : Value} {xs : List α} (h : IsS168 w0 W g f0 f1 f2 f3) (ho : d.R e W base ok v xs) (ht : ∀ q, q ∈ e :: d.E → q ≠ 168) : d.R e W base (fun k => ok k ∧ k ≠ g) v xs := by
 obtain ⟨A2, c2, hb, hg, hr2⟩ := h
 exact Kd.R_types ho hb ht
theorem IsS168.lt {w0 W : World} {g : Nat} {f0 : Int} {f1 : Int} {f2 : List Int} {f3 : Int} (h : IsS168 w0 W g f0 f1 f2 f3) : g < W.heap.size := by
 obtain ⟨A2, c2, hb, hg, hr2⟩ := h
 exact blk_lt hb
def coder_reader_bit.f (s0_0 : Int) (s0_1 : Int) (s0_2 : List Int) (s0_3 : Int) : Option (Int × Int × Int × Int × Int) := if s0_3 = (wrap64 (8 * (s0_2.length : Int))) then (some (0, 171, s0_0, s0_1, s0_3)) else (if 0 ≤ (wrap64 (Int.tdiv s0_3 8)) then (if (wrap64 (Int.tdiv s0_3 8)) < (s0_2.length : Int) then (if 0 ≤ (wrap64 (7 - (Int.tmod s0_3 8))) then (some ((Go.bits .and .u8 (shr .u8 (rd s0_2 (wrap64 (Int.tdiv s0_3 8))) (wrap64 (7 - (Int.tmod s0_3 8)))) 1) % 4294967296, 0, s0_0, s0_1, wrap64 (s0_3 + 1))) else (none)) else (none)) else (none))
def coder_reader_ends.l0 : Nat → Int → Int → List Int → Int → Option (Bool × Int × Int × Int)
 | 0, _, _, _, _ => none
 | k + 1, x1000, x1001, x1002, x1003 => if (Int.tmod x1003 8) = 0 then (some ((x1003 == (wrap64 (8 * (x1002.length : Int)))), x1000, x1001, x1003)) else ((coder_reader_bit.f x1000 x1001 x1002 x1003).bind fun bt175 => (if bt175.1 = 0 then (coder_reader_ends.l0 k bt175.2.2.1 bt175.2.2.2.1 x1002 bt175.2.2.2.2) else (some (false, bt175.2.2.1, bt175.2.2.2.1, bt175.2.2.2.2))))
def coder_reader_ends.f (k : Nat) (s0_0 : Int) (s0_1 : Int) (s0_2 : List Int) (s0_3 : Int) : Option (Bool × Int × Int × Int) := coder_reader_ends.l0 k s0_0 s0_1 s0_2 s0_3
theorem coder_reader_ends.mono_l : ∀ k, (∀ y0 y1 y2 y3, LeO (coder_reader_ends.l0 k y0 y1 y2 y3) (coder_reader_ends.l0 (k + 1) y0 y1 y2 y3))
 | 0 => fun _ _ _ _ r h => by simp [coder_reader_ends.l0] at h
 | k + 1 => by
  have ih0 := coder_reader_ends.mono_l k
  ·intro y0 y1 y2 y3
   unfold coder_reader_ends.l0
   repeat' first
   | (with_reducible exact ih0 _ _ _ _)
   | (with_reducible exact LeO.refl _)
   | (with_reducible exact LeO.none _)
   | (with_reducible refine LeO.ite ?_ ?_)
   | (with_reducible refine LeO.bind ?_ (fun _ => ?_))
   | exact ih0 _ _ _ _
   | exact LeO.none _
   | refine LeO.ite ?_ ?_
   | refine LeO.bind ?_ (fun _ => ?_)
theorem coder_reader_ends.mono : ∀ a0 a1 a2 a3 k, LeO (coder_reader_ends.f k a0 a1 a2 a3) (coder_reader_ends.f (k + 1) a0 a1 a2 a3) := by
 intro a0 a1 a2 a3 k
 have ih0 := coder_reader_ends.mono_l k
 unfold coder_reader_ends.f
 repeat' first
     | (with_reducible exact ih0 _ _ _ _)
     | (with_reducible exact LeO.refl _)
     | (with_reducible exact LeO.none _)
     | (with_reducible refine LeO.ite ?_ ?_)
     | (with_reducible refine LeO.bind ?_ (fun _ => ?_))
     | exact ih0 _ _ _ _
     | exact LeO.none _
     | refine LeO.ite ?_ ?_
     | refine LeO.bind ?_ (fun _ => ?_)
end Go.Proofs.Ytbbebhdcfopmmaa.PCodecNames
end
section
namespace Go.Proofs.Ytbbebhdcfopmmaa.PCodecNames
open Go.RowKit Go.Proofs.YtbbebhdcfopmmaaW.PrintWords Go.Proofs.YtbbebhdcfopmmaaW.PrintLast Go.Proofs.YtbbebhdcfopmmaaW.PrintMore
attribute [local go_sem] max2_int min2_int max_two min_two max_three min_three max_four min_four   -- for this text's walks alone
set_option linter.unusedVariables false
set_option linter.unusedSimpArgs false

mutual
def codec_paste.l0 : Nat → Int → Int → Int → Int → Int → List Int → Int → Int → List Int → Option (List Int)
 | 0, _, _, _, _, _, _, _, _, _ => none
 | k + 1, x2, x3, x8, x184000, x184001, x184002, x185000, x185001, x185002 => if x8 < x185001 then (codec_paste.j1 k x2 x3 x8 (decide ((wrap64 (x3 + x8)) < x184001)) x184000 x184001 x184002 x185000 x185001 x185002) else (codec_paste.j1 k x2 x3 x8 false x184000 x184001 x184002 x185000 x185001 x185002)
def codec_paste.j1 : Nat → Int → Int → Int → Bool → Int → Int → List Int → Int → Int → List Int → Option (List Int)
 | 0, _, _, _, _, _, _, _, _, _, _ => none
 | k + 1, x2, x3, x8, x24, x184000, x184001, x184002, x185000, x185001, x185002 => if x24 = true then (codec_paste.l1 k x2 x3 x8 (mx 0 (wrap64 (-x2))) x184000 x184001 x184002 x185000 x185001 x185002) else (some x184002)
def codec_paste.l1 : Nat → Int → Int → Int → Int → Int → Int → List Int → Int → Int → List Int → Option (List Int)
 | 0, _, _, _, _, _, _, _, _, _, _ => none
 | k + 1, x2, x3, x8, x9, x184000, x184001, x184002, x185000, x185001, x185002 => if x9 < x185000 then (if (wrap64 (x2 + x9)) < x184000 then (if 0 ≤ (wrap64 ((wrap64 (x8 * x185000)) + x9)) then (if (wrap64 ((wrap64 (x8 * x185000)) + x9)) < (x185002.length : Int) then (if 0 ≤ (wrap64 ((wrap64 ((wrap64 ((wrap64 (x3 + x8)) * x184000)) + x2)) + x9)) then (if (wrap64 ((wrap64 ((wrap64 ((wrap64 (x3 + x8)) * x184000)) + x2)) + x9)) < (x184002.length : Int) then (codec_paste.l1 k x2 x3 x8 (wrap64 (x9 + 1)) x184000 x184001 (x184002.set ((wrap64 ((wrap64 ((wrap64 ((wrap64 (x3 + x8)) * x184000)) + x2)) + x9)) : Int).toNat (rd x185002 (wrap64 ((wrap64 (x8 * x185000)) + x9)))) x185000 x185001 x185002) else (none)) else (none)) else (none)) else (none)) else (codec_paste.l0 k x2 x3 (wrap64 (x8 + 1)) x184000 x184001 x184002 x185000 x185001 x185002)) else (codec_paste.l0 k x2 x3 (wrap64 (x8 + 1)) x184000 x184001 x184002 x185000 x185001 x185002)
end
def codec_paste.f (k : Nat) (a0_0 : Int) (a0_1 : Int) (l0_2 : List Int) (a1_0 : Int) (a1_1 : Int) (l1_2 : List Int) (a2 : Int) (a3 : Int) : Option (List Int) := codec_paste.l0 k a2 a3 (mx 0 (wrap64 (-a3))) a0_0 a0_1 l0_2 a1_0 a1_1 l1_2
theorem codec_paste.mono_l : ∀ k, (∀ y0 y1 y2 y3 y4 y5 y6 y7 y8, LeO (codec_paste.l0 k y0 y1 y2 y3 y4 y5 y6 y7 y8) (codec_paste.l0 (k + 1) y0 y1 y2 y3 y4 y5 y6 y7 y8)) ∧ (∀ y0 y1 y2 y3 y4 y5 y6 y7 y8 y9, LeO (codec_paste.j1 k y0 y1 y2 y3 y4 y5 y6 y7 y8 y9) (codec_paste.j1 (k + 1) y0 y1 y2 y3 y4 y5 y6 y7 y8 y9)) ∧ (∀ y0 y1 y2 y3 y4 y5 y6 y7 y8 y9, LeO (codec_paste.l1 k y0 y1 y2 y3 y4 y5 y6 y7 y8 y9) (codec_paste.l1 (k + 1) y0 y1 y2 y3 y4 y5 y6 y7 y8 y9))
 | 0 => ⟨fun _ _ _ _ _ _ _ _ _ r h => by simp [codec_paste.l0] at h, fun _ _ _ _ _ _ _ _ _ _ r h => by simp [codec_paste.j1] at h, fun _ _ _ _ _ _ _ _ _ _ r h => by simp [codec_paste.l1] at h⟩
 | k + 1 => by
  obtain ⟨ih0, ih1, ih2⟩ := codec_paste.mono_l k
  refine ⟨?_, ?_, ?_⟩
  ·intro y0 y1 y2 y3 y4 y5 y6 y7 y8
   unfold codec_paste.l0
   repeat' first
   | (with_reducible exact ih0 _ _ _ _ _ _ _ _ _)
   | (with_reducible exact ih1 _ _ _ _ _ _ _ _ _ _)
   | (with_reducible exact ih2 _ _ _ _ _ _ _ _ _ _)
   | (with_reducible exact LeO.refl _)
   | (with_reducible exact LeO.none _)
   | (with_reducible refine LeO.ite ?_ ?_)
   | (with_reducible refine LeO.bind ?_ (fun _ => ?_))
   | exact ih0 _ _ _ _ _ _ _ _ _
   | exact ih1 _ _ _ _ _ _ _ _ _ _
   | exact ih2 _ _ _ _ _ _ _ _ _ _
   | exact LeO.none _
   | refine LeO.ite ?_ ?_
   | refine LeO.bind ?_ (fun _ => ?_)
  ·intro y0 y1 y2 y3 y4 y5 y6 y7 y8 y9
   unfold codec_paste.j1
   repeat' first
   | (with_reducible exact ih0 _ _ _ _ _ _ _ _ _)
   | (with_reducible exact ih1 _ _ _ _ _ _ _ _ _ _)
   | (with_reducible exact ih2 _ _ _ _ _ _ _ _ _ _)
   | (with_reducible exact LeO.refl _)
   | (with_reducible exact LeO.none _)
   | (with_reducible refine LeO.ite ?_ ?_)
   | (with_reducible refine LeO.bind ?_ (fun _ => ?_))
   | exact ih0 _ _ _ _ _ _ _ _ _
   | exact ih1 _ _ _ _ _ _ _ _ _ _
   | exact ih2 _ _ _ _ _ _ _ _ _ _
   | exact LeO.none _
   | refine LeO.ite ?_ ?_
   | refine LeO.bind ?_ (fun _ => ?_)
  ·intro y0 y1 y2 y3 y4 y5 y6 y7 y8 y9
   unfold codec_paste.l1
   repeat' first
   | (with_reducible exact ih0 _ _ _ _ _ _ _ _ _)
   | (with_reducible exact ih1 _ _ _ _ _ _ _ _ _ _)
   | (with_reducible exact ih2 _ _ _ _ _ _ _ _ _ _)
   | (with_reducible exact LeO.refl _)
   | (with_reducible exact LeO.none _)
   | (with_reducible refine LeO.ite ?_ ?_)
   | (with_reducible refine LeO.bind ?_ (fun _ => ?_))
   | exact ih0 _ _ _ _ _ _ _ _ _
   | exact ih1 _ _ _ _ _ _ _ _ _ _
   | exact ih2 _ _ _ _ _ _ _ _ _ _
   | exact LeO.none _
   | refine LeO.ite ?_ ?_
   | refine LeO.bind ?_ (fun _ => ?_)
theorem codec_paste.mono : ∀ a0 a1 a2 a3 a4 a5 a6 a7 k, LeO (codec_paste.f k a0 a1 a2 a3 a4 a5 a6 a7) (codec_paste.f (k + 1) a0 a1 a2 a3 a4 a5 a6 a7) := by
 intro a0 a1 a2 a3 a4 a5 a6 a7 k
 obtain ⟨ih0, ih1, ih2⟩ := codec_paste.mono_l k
 unfold codec_paste.f
 repeat' first
     | (with_reducible exact ih0 _ _ _ _ _ _ _ _ _)
     | (with_reducible exact ih1 _ _ _ _ _ _ _ _ _ _)
     | (with_reducible exact ih2 _ _ _ _ _ _ _ _ _ _)
     | (with_reducible exact LeO.refl _)
     | (with_reducible exact LeO.none _)
     | (with_reducible refine LeO.ite ?_ ?_)
     | (with_reducible refine LeO.bind ?_ (fun _ => ?_))
     | exact ih0 _ _ _ _ _ _ _ _ _
     | exact ih1 _ _ _ _ _ _ _ _ _ _
     | exact ih2 _ _ _ _ _ _ _ _ _ _
     | exact LeO.none _
     | refine LeO.ite ?_ ?_
     | refine LeO.bind ?_ (fun _ => ?_)
def codec_paste.T7 : Bool × List (List Nat × List Nat) := (true, [([], []), ([0], [0]), ([], []), ([], []), ([2, 3], [2, 3]), ([], []), ([5], [5]), ([4, 6], [4, 6]), ([], []), ([7, 8], [7, 8]), ([], []), ([9, 10], [9, 10]), ([], []), ([12], [12]), ([], []), ([], []), ([15], [15]), ([14, 16], [14, 16]), ([], []), ([17, 18], [17, 18]), ([13, 19], [13, 19]), ([20], [20]), ([1, 11, 0, 1, 2, 3, 4, 5, 6, 7, 8, 9, 10, 11, 12, 13, 14, 15, 16, 17, 18, 19, 20, 21], [1, 11]), ([22, 21, 0, 1, 2, 3, 4, 5, 6, 7, 8, 9, 10, 11, 12, 13, 14, 15, 16, 17, 18, 19, 20, 21], [21, 22])])
def codec_paste.B7 : List Nat := [0, 1, 0, 0, 12, 0, 32, 124, 0, 508, 0, 2044, 0, 4096, 0, 0, 32768, 114688, 0, 507904, 1044480, 2093056, 4194303, 8388607]
theorem codec_paste.tab7 : rtab .any (opsOf Try.f78 7) = codec_paste.T7 := by kernel_rfl
theorem codec_paste.bits7 : waitsOk codec_paste.T7.2 codec_paste.B7 = true := by kernel_rfl
set_option maxHeartbeats 8000000 in
set_option maxRecDepth 100000 in
theorem codec_paste.calls (k : Nat) (a0_0 : Int) (a0_1 : Int) (P0_2_ : Nat → Prop) (u9000_ : Value) (l0_2 : List Int) (a1_0 : Int) (a1_1 : Int) (A1_2 : Option Addr) (c1_2 : Nat) (l1_2 : List Int) (a2 : Int) (a3 : Int) (r : List Int) (w0 w : World) (hB : Below w0.heap.size w0 w) (ho0_2 : Kd.R (Kd.int .u32) 24 w w0.heap.size P0_2_ u9000_ l0_2) (hr1_2 : ∀ W_, Kept w W_ (fun k_ => P0_2_ k_) → Kd.C (Kd.int .u32) W_ A1_2 l1_2.length l1_2) (hc1_2 : l1_2.length ≤ c1_2) (h : codec_paste.f k a0_0 a0_1 l0_2 a1_0 a1_1 l1_2 a2 a3 = some r) :
    Calls Try.prog 78 #[.agg #[.int .i64 a0_0, .int .i64 a0_1, u9000_], .agg #[.int .i64 a1_0, .int .i64 a1_1, .slice A1_2 l1_2.length c1_2], .int .i64 a2, .int .i64 a3] w fun e w' => e = .returned (.tuple #[]) ∧ Kd.R (Kd.int .u32) 24 w' w0.heap.size (fun k_ => (P0_2_ k_ ∨ w.heap.size ≤ k_)) u9000_ r ∧ Below w0.heap.size w0 w' ∧ Kept w w' (fun k_ => P0_2_ k_) := by
 have hu31 := Try.underlying31
 have HO0_2 := Aside0.mk (show Kd.R (Kd.int .u32) 24 w w0.heap.size (fun k_ => (P0_2_ k_ ∨ w.heap.size ≤ k_)) u9000_ l0_2 from Kd.R_mono ho0_2 (fun k_ hk => (.inl hk)))
 have HR1_2 := Aside0.mk hr1_2
 have HC1_2 := Aside0.mk hc1_2
 clear hr1_2 hc1_2
 have HK := Aside0.mk (Kept.refl w (fun k_ => P0_2_ k_))
 have HW0 := Aside0.mk hB.size
 have HB := Aside0.mk hB
 clear hB
 have H : (codec_paste.l0 k a2 a3 (mx 0 (wrap64 (-a3))) a0_0 a0_1 l0_2 a1_0 a1_1 l1_2) = some r := h
 clear h
 obtain ⟨ji5, hji5⟩ : ∃ j_ : Int, (mx 0 (wrap64 (-a3))) = j_ := ⟨_, rfl⟩
 replace H : (codec_paste.l0 k a2 a3 ji5 a0_0 a0_1 l0_2 a1_0 a1_1 l1_2) = some r := by first | (rw [hji5] at H; exact H) | (simp only [hji5] at H ⊢; exact H)
 (try (have hji5l : 0 ≤ ji5 := by (rw [← hji5]; unfold mx; (repeat' split) <;> omega)))
 (try (have hji5m : 0 ≤ ji5 := by omega))
 have hji5_ : (if 0 < (wrap64 (-a3)) then (wrap64 (-a3)) else 0) = ji5 := hji5
 have H' := Aside0.mk H
 clear H
 obtain ⟨Ao6, co6, eo6⟩ := Kd.R_slice HO0_2.out
 subst eo6
 go_enter Try.func78, Try.ntmps78
 go_wp2_with (first | ((with_reducible refine gate_dst (N := 4) rfl ?_); refine box_event ?hg (N := 4) ?hd (cs := #[.int .i64 a0_0, .int .i64 a0_1, .slice Ao6 l0_2.length co6]) (t := 31) ?hr ?_; (case hd => rfl); (case hg => rfl); (case hr => first | (go_simp; done) | (go_simp; rfl)); intro gb183 hg w7 hbox hb; have n0_ := Aside0.mk (Kd.R_below (by (with_reducible repeat (first | apply Kd.R_alloc | apply Kd.R_drewN | apply Kd.R_drew)); exact HO0_2.out) hb); have n1_ := Aside0.mk (Kept.below (S := (fun k_ => P0_2_ k_)) (by repeat (first | (with_reducible first | exact HK.out | apply Kept.alloc | apply Kept.drewN | apply Kept.drew) | exact HK.out)) hb); have n2_ := Aside0.mk (below_step (by repeat (first | (with_reducible first | exact HB.out | apply below_alloc | apply pw_below_drewN | apply below_drew1) | exact HB.out)) hb); have n3_ := Aside0.mk (hbox); have n4_ := Aside0.mk ((by rw [hg]; exact (by first | exact HK.out.1 | exact (show Kept w _ (fun k_ => P0_2_ k_) from by repeat (first | (with_reducible first | exact HK.out | apply Kept.alloc | apply Kept.drewN | apply Kept.drew) | exact HK.out)).1) : w.heap.size ≤ gb183)); have n5_ := Aside0.mk ((by rw [hg]; exact (below_size (by repeat (first | (with_reducible first | exact HB.out | apply below_alloc | apply pw_below_drewN | apply below_drew1) | exact HB.out))) : w0.heap.size ≤ gb183)); clear HO0_2; clear HK; clear HB; have HO0_2 := n0_; have HK := n1_; have HB := n2_; have BK183 := n3_; have GW183 := n4_; have GE183 := n5_; clear n0_ n1_ n2_ n3_ n4_ n5_; clear hb hbox hg) | ((with_reducible refine gate_dst (N := 5) rfl ?_); refine box_event ?hg (N := 5) ?hd (cs := #[.int .i64 a1_0, .int .i64 a1_1, .slice A1_2 l1_2.length c1_2]) (t := 31) ?hr ?_; (case hd => rfl); (case hg => rfl); (case hr => first | (go_simp; done) | (go_simp; rfl)); intro gb184 hg w8 hbox hb; have n0_ := Aside0.mk (Kd.R_below (by (with_reducible repeat (first | apply Kd.R_alloc | apply Kd.R_drewN | apply Kd.R_drew)); exact HO0_2.out) hb); have n1_ := Aside0.mk (blk_below (g := gb183) (o := .cells #[.int .i64 a0_0, .int .i64 a0_1, .slice Ao6 l0_2.length co6] 31 (0, 0)) (by (with_reducible repeat (first | refine blk_drewN ?_ _ | refine blk_drew ?_ | refine blk_alloc ?_ _)); exact BK183.out) hb); have n2_ := Aside0.mk (Kept.below (S := (fun k_ => P0_2_ k_)) (by repeat (first | (with_reducible first | exact HK.out | apply Kept.alloc | apply Kept.drewN | apply Kept.drew | refine Kept.setCell ?_ (.inr GW183.out) _) | exact HK.out)) hb); have n3_ := Aside0.mk (below_step (by repeat (first | (with_reducible first | exact HB.out | apply below_alloc | apply pw_below_drewN | apply below_drew1 | refine below_set ?_ GE183.out) | exact HB.out)) hb); have n4_ := Aside0.mk (hbox); have n5_ := Aside0.mk ((by rw [hg]; exact (by first | exact HK.out.1 | exact (show Kept w _ (fun k_ => P0_2_ k_) from by repeat (first | (with_reducible first | exact HK.out | apply Kept.alloc | apply Kept.drewN | apply Kept.drew | refine Kept.setCell ?_ (.inr GW183.out) _) | exact HK.out)).1) : w.heap.size ≤ gb184)); have n6_ := Aside0.mk ((by rw [hg]; exact (below_size (by repeat (first | (with_reducible first | exact HB.out | apply below_alloc | apply pw_below_drewN | apply below_drew1 | refine below_set ?_ GE183.out) | exact HB.out))) : w0.heap.size ≤ gb184)); have n7_ := Aside0.mk ((by rw [hg]; exact Nat.ne_of_lt (blk_lt (g := gb183) (o := .cells #[.int .i64 a0_0, .int .i64 a0_1, .slice Ao6 l0_2.length co6] 31 (0, 0)) (by (with_reducible repeat (first | refine blk_drewN ?_ _ | refine blk_drew ?_ | refine blk_alloc ?_ _)); exact BK183.out)) : gb183 ≠ gb184)); have n8_ := Aside0.mk ((by rw [hg]; exact Nat.ne_of_gt (blk_lt (g := gb183) (o := .cells #[.int .i64 a0_0, .int .i64 a0_1, .slice Ao6 l0_2.length co6] 31 (0, 0)) (by (with_reducible repeat (first | refine blk_drewN ?_ _ | refine blk_drew ?_ | refine blk_alloc ?_ _)); exact BK183.out)) : gb184 ≠ gb183)); clear HO0_2; clear BK183; clear HK; clear HB; have HO0_2 := n0_; have BK183 := n1_; have HK := n2_; have HB := n3_; have BK184 := n4_; have GW184 := n5_; have GE184 := n6_; have NB183_184 := n7_; have NB184_183 := n8_; clear n0_ n1_ n2_ n3_ n4_ n5_ n6_ n7_ n8_; clear hb hbox hg))
 go_loopg [8] k (fun kq v8 w' => ∃ (x8_1 : Int) (x184002_1 : List Int), v8 = .int .i64 x8_1 ∧ Aside0 (codec_paste.l0 kq a2 a3 x8_1 a0_0 a0_1 x184002_1 a1_0 a1_1 l1_2 = some r) ∧ Aside0 (kq ≤ k) ∧ Aside0 (Kd.R (Kd.int .u32) 24 w' w0.heap.size (fun k_ => (P0_2_ k_ ∨ w.heap.size ≤ k_)) (.slice Ao6 l0_2.length co6) x184002_1) ∧ Aside0 (w'.heap[gb183]? = some (.cells #[.int .i64 a0_0, .int .i64 a0_1, (.slice Ao6 l0_2.length co6)] 31 (0, 0))) ∧ Aside0 (w'.heap[gb184]? = some (.cells #[.int .i64 a1_0, .int .i64 a1_1, (.slice A1_2 l1_2.length c1_2)] 31 (0, 0))) ∧ Aside0 (Kept w w' (fun k_ => P0_2_ k_)) ∧ Aside0 (Below w0.heap.size w0 w'))
 case atStart => exact ⟨(ji5), (l0_2), (by first | rfl | (simp; done) | (simp only [← hji5] <;> (first | rfl | simp)) | (simp [*]; done)), H', ⟨Nat.le_refl _⟩, ⟨by (with_reducible repeat (first | apply Kd.R_alloc | apply Kd.R_drewN | apply Kd.R_drew)); exact HO0_2.out⟩, ⟨by (with_reducible repeat (first | refine blk_drewN ?_ _ | refine blk_drew ?_ | refine blk_alloc ?_ _)); exact BK183.out⟩, ⟨by (with_reducible repeat (first | refine blk_drewN ?_ _ | refine blk_drew ?_ | refine blk_alloc ?_ _)); exact BK184.out⟩, ⟨by repeat (first | (with_reducible first | exact HK.out | apply Kept.alloc | apply Kept.drewN | apply Kept.drew | refine Kept.setCell ?_ (.inr GW183.out) _ | refine Kept.setCell ?_ (.inr GW184.out) _) | exact HK.out)⟩, ⟨by repeat (first | (with_reducible first | exact HB.out | apply below_alloc | apply pw_below_drewN | apply below_drew1 | refine below_set ?_ GE183.out | refine below_set ?_ GE184.out) | exact HB.out)⟩⟩
 case round =>
  clear H'
  try clear c1
  try clear p2
  try clear p6
  try clear c7
  obtain ⟨x8_1, x184002_1, rfl, HA, HK1, HO_184002, BK183, BK184, HK, HB⟩ := hrel
  have hl184002_1 := (Kd.R_reads' HO_184002.out).1
  rw [hl184002_1] at HO_184002
  (try simp only [hl184002_1])
  (try simp only [hl184002_1] at BK183)
  (try simp only [hl184002_1] at BK184)
  cases gk with
  | zero => exact absurd HA.out (by simp [codec_paste.l0])
  | succ k1 =>
   have H := HA.out
   clear HA
   simp only [codec_paste.l0] at H
   have HC9 := Aside0.mk H
   clear H
   go_upto_region 2 with (fail)
   go_cut [24] (fun v24 wc => ∃ (kq : Nat) (x24_8 : Bool), v24 = .bool x24_8 ∧ Aside0 (codec_paste.j1 kq a2 a3 x8_1 x24_8 a0_0 a0_1 x184002_1 a1_0 a1_1 l1_2 = some r) ∧ Aside0 (kq ≤ k1) ∧ Aside0 (Kd.R (Kd.int .u32) 24 wc w0.heap.size (fun k_ => (P0_2_ k_ ∨ w.heap.size ≤ k_)) (.slice Ao6 x184002_1.length co6) x184002_1) ∧ Aside0 (wc.heap[gb183]? = some (.cells #[.int .i64 a0_0, .int .i64 a0_1, (.slice Ao6 x184002_1.length co6)] 31 (0, 0))) ∧ Aside0 (wc.heap[gb184]? = some (.cells #[.int .i64 a1_0, .int .i64 a1_1, (.slice A1_2 l1_2.length c1_2)] 31 (0, 0))) ∧ Aside0 (Kept w wc (fun k_ => P0_2_ k_)) ∧ Aside0 (Below w0.heap.size w0 wc))
   case first =>
    have H := HC9.out
    clear HC9
    by_cases c10 : x8_1 < a1_1
    ·rw [if_pos c10] at H
     have c10b0 : decide (x8_1 < a1_1) = true := decide_eq_true c10
     clear c10
     (first | rw [c10b0] | (simp only [i64_w, i32_w]; rw [c10b0]) | skip)
     have H' := Aside0.mk H
     clear H
     have hnb11 := NB184_183.out
     have hnc11 := NB183_184.out
     have hcz12_0 : wr.cell? ⟨gb184, 0, none⟩ = some (.int .i64 a1_0) := (blk_cell BK184.out 0).trans rfl
     have hcz12_1 : wr.cell? ⟨gb184, 1, none⟩ = some (.int .i64 a1_1) := (blk_cell BK184.out 1).trans rfl
     have hcz12_2 : wr.cell? ⟨gb184, 2, none⟩ = some (.slice A1_2 l1_2.length c1_2) := (blk_cell BK184.out 2).trans rfl
     have hfz12_0 := blk_frozen BK184.out 0
     have hfz12_1 := blk_frozen BK184.out 1
     have hfz12_2 := blk_frozen BK184.out 2
     have hcz13_0 : wr.cell? ⟨gb183, 0, none⟩ = some (.int .i64 a0_0) := (blk_cell BK183.out 0).trans rfl
     have hcz13_1 : wr.cell? ⟨gb183, 1, none⟩ = some (.int .i64 a0_1) := (blk_cell BK183.out 1).trans rfl
     have hcz13_2 : wr.cell? ⟨gb183, 2, none⟩ = some (.slice Ao6 x184002_1.length co6) := (blk_cell BK183.out 2).trans rfl
     have hfz13_0 := blk_frozen BK183.out 0
     have hfz13_1 := blk_frozen BK183.out 1
     have hfz13_2 := blk_frozen BK183.out 2
     go_wp2
     go_meet
     case rel => exact ⟨_, (decide ((wrap64 (a3 + x8_1)) < a0_1)), (by first | rfl | (simp; done) | (simp [*]; done)), H', ⟨by have := HK1.out; first | omega | exact Nat.le_refl _⟩, ⟨by (try simp only [hl184002_1]); (with_reducible repeat (first | apply Kd.R_alloc | apply Kd.R_drewN | apply Kd.R_drew)); exact HO_184002.out⟩, ⟨by (try simp only [hl184002_1]); (with_reducible repeat (first | refine blk_drewN ?_ _ | refine blk_drew ?_ | refine blk_alloc ?_ _)); exact BK183.out⟩, ⟨by (try simp only [hl184002_1]); (with_reducible repeat (first | refine blk_drewN ?_ _ | refine blk_drew ?_ | refine blk_alloc ?_ _)); exact BK184.out⟩, ⟨by repeat (first | (with_reducible first | exact HK.out | apply Kept.alloc | apply Kept.drewN | apply Kept.drew | refine Kept.setCell ?_ (.inr GW183.out) _ | refine Kept.setCell ?_ (.inr GW184.out) _) | exact HK.out)⟩, ⟨by repeat (first | (with_reducible first | exact HB.out | apply below_alloc | apply pw_below_drewN | apply below_drew1 | refine below_set ?_ GE183.out | refine below_set ?_ GE184.out) | exact HB.out)⟩⟩
    ·rw [if_neg c10] at H
     have c10b0 : decide (x8_1 < a1_1) = false := decide_eq_false c10
     clear c10
     (first | rw [c10b0] | (simp only [i64_w, i32_w]; rw [c10b0]) | skip)
     have H' := Aside0.mk H
     clear H
     have hnb14 := NB184_183.out
     have hnc14 := NB183_184.out
     have hcz15_0 : wr.cell? ⟨gb184, 0, none⟩ = some (.int .i64 a1_0) := (blk_cell BK184.out 0).trans rfl
     have hcz15_1 : wr.cell? ⟨gb184, 1, none⟩ = some (.int .i64 a1_1) := (blk_cell BK184.out 1).trans rfl
     have hcz15_2 : wr.cell? ⟨gb184, 2, none⟩ = some (.slice A1_2 l1_2.length c1_2) := (blk_cell BK184.out 2).trans rfl
     have hfz15_0 := blk_frozen BK184.out 0
     have hfz15_1 := blk_frozen BK184.out 1
     have hfz15_2 := blk_frozen BK184.out 2
     go_wp2
     go_meet
     case rel => exact ⟨_, (false), (by first | rfl | (simp; done) | (simp [*]; done)), H', ⟨by have := HK1.out; first | omega | exact Nat.le_refl _⟩, ⟨by (try simp only [hl184002_1]); (with_reducible repeat (first | apply Kd.R_alloc | apply Kd.R_drewN | apply Kd.R_drew)); exact HO_184002.out⟩, ⟨by (try simp only [hl184002_1]); (with_reducible repeat (first | refine blk_drewN ?_ _ | refine blk_drew ?_ | refine blk_alloc ?_ _)); exact BK183.out⟩, ⟨by (try simp only [hl184002_1]); (with_reducible repeat (first | refine blk_drewN ?_ _ | refine blk_drew ?_ | refine blk_alloc ?_ _)); exact BK184.out⟩, ⟨by repeat (first | (with_reducible first | exact HK.out | apply Kept.alloc | apply Kept.drewN | apply Kept.drew | refine Kept.setCell ?_ (.inr GW183.out) _ | refine Kept.setCell ?_ (.inr GW184.out) _) | exact HK.out)⟩, ⟨by repeat (first | (with_reducible first | exact HB.out | apply below_alloc | apply pw_below_drewN | apply below_drew1 | refine below_set ?_ GE183.out | refine below_set ?_ GE184.out) | exact HB.out)⟩⟩
   case rest =>
    clear HC9
    try clear c1
    try clear p2
    try clear p6
    try clear c7
    try clear c10
    try clear c10b0
    try clear c11
    try clear c14
    try clear hcz12_0
    try clear hcz12_1
    try clear hcz12_2
    try clear hcz13_0
    try clear hcz13_1
    try clear hcz13_2
    try clear hcz15_0
    try clear hcz15_1
    try clear hcz15_2
    try clear hfz12_0
    try clear hfz12_1
    try clear hfz12_2
    try clear hfz13_0
    try clear hfz13_1
    try clear hfz13_2
    try clear hfz15_0
    try clear hfz15_1
    try clear hfz15_2
    try clear p2
    try clear p6
    obtain ⟨kq, x24_8, rfl, HA, HJ8, HO_184002, BK183, BK184, HK, HB⟩ := hcut
    cases kq with
    | zero => exact absurd HA.out (by simp [codec_paste.j1])
    | succ kj8 =>
     have H := HA.out
     clear HA
     simp only [codec_paste.j1] at H
     by_cases c16 : x24_8 = true
     ·subst c16
      have H1 : (codec_paste.l1 kj8 a2 a3 x8_1 (mx 0 (wrap64 (-a2))) a0_0 a0_1 x184002_1 a1_0 a1_1 l1_2) = some r := by rw [if_pos rfl] at H; exact H
      clear H
      have H := H1
      clear H1
      obtain ⟨ji17, hji17⟩ : ∃ j_ : Int, (mx 0 (wrap64 (-a2))) = j_ := ⟨_, rfl⟩
      replace H : (codec_paste.l1 kj8 a2 a3 x8_1 ji17 a0_0 a0_1 x184002_1 a1_0 a1_1 l1_2) = some r := by first | (rw [hji17] at H; exact H) | (simp only [hji17] at H ⊢; exact H)
      have hji17_ : (if 0 < (wrap64 (-a2)) then (wrap64 (-a2)) else 0) = ji17 := hji17
      have H' := Aside0.mk H
      clear H
      go_wp2
      go_loopg [9] kj8 (fun kq v9 w' => ∃ (x9_3 : Int) (x184002_3 : List Int), v9 = .int .i64 x9_3 ∧ Aside0 (codec_paste.l1 kq a2 a3 x8_1 x9_3 a0_0 a0_1 x184002_3 a1_0 a1_1 l1_2 = some r) ∧ Aside0 (kq ≤ kj8) ∧ Aside0 (Kd.R (Kd.int .u32) 24 w' w0.heap.size (fun k_ => (P0_2_ k_ ∨ w.heap.size ≤ k_)) (.slice Ao6 x184002_1.length co6) x184002_3) ∧ Aside0 (w'.heap[gb183]? = some (.cells #[.int .i64 a0_0, .int .i64 a0_1, (.slice Ao6 x184002_1.length co6)] 31 (0, 0))) ∧ Aside0 (w'.heap[gb184]? = some (.cells #[.int .i64 a1_0, .int .i64 a1_1, (.slice A1_2 l1_2.length c1_2)] 31 (0, 0))) ∧ Aside0 (Kept w w' (fun k_ => P0_2_ k_)) ∧ Aside0 (Below w0.heap.size w0 w'))
      case atStart => exact ⟨(ji17), (x184002_1), (by first | rfl | (simp; done) | (simp only [← hji17] <;> (first | rfl | simp)) | (simp [*]; done)), H', ⟨Nat.le_refl _⟩, ⟨by (try simp only [hl184002_1]); (with_reducible repeat (first | apply Kd.R_alloc | apply Kd.R_drewN | apply Kd.R_drew)); exact HO_184002.out⟩, ⟨by (try simp only [hl184002_1]); (with_reducible repeat (first | refine blk_drewN ?_ _ | refine blk_drew ?_ | refine blk_alloc ?_ _)); exact BK183.out⟩, ⟨by (try simp only [hl184002_1]); (with_reducible repeat (first | refine blk_drewN ?_ _ | refine blk_drew ?_ | refine blk_alloc ?_ _)); exact BK184.out⟩, ⟨by repeat (first | (with_reducible first | exact HK.out | apply Kept.alloc | apply Kept.drewN | apply Kept.drew | refine Kept.setCell ?_ (.inr GW183.out) _ | refine Kept.setCell ?_ (.inr GW184.out) _) | exact HK.out)⟩, ⟨by repeat (first | (with_reducible first | exact HB.out | apply below_alloc | apply pw_below_drewN | apply below_drew1 | refine below_set ?_ GE183.out | refine below_set ?_ GE184.out) | exact HB.out)⟩⟩
      case round =>
       clear H'
       try clear c1
       try clear p2
       try clear p6
       try clear c7
       try clear c10
       try clear c10b0
       try clear c11
       try clear c14
       try clear c16
       try clear hcz12_0
       try clear hcz12_1
       try clear hcz12_2
       try clear hcz13_0
       try clear hcz13_1
       try clear hcz13_2
       try clear hcz15_0
       try clear hcz15_1
       try clear hcz15_2
       try clear hfz12_0
       try clear hfz12_1
       try clear hfz12_2
       try clear hfz13_0
       try clear hfz13_1
       try clear hfz13_2
       try clear hfz15_0
       try clear hfz15_1
       try clear hfz15_2
       try clear p2
       try clear p6
       obtain ⟨x9_3, x184002_3, rfl, HA, HK3, HO_184002, BK183, BK184, HK, HB⟩ := hrel
       have hl184002_3 := (Kd.R_reads' HO_184002.out).1
       rw [hl184002_3] at HO_184002
       (try simp only [hl184002_3])
       (try simp only [hl184002_3] at BK183)
       (try simp only [hl184002_3] at BK184)
       cases gk with
       | zero => exact absurd HA.out (by simp [codec_paste.l1])
       | succ k3 =>
        have H := HA.out
        clear HA
        simp only [codec_paste.l1] at H
        by_cases c18 : x9_3 < a1_0
        ·rw [if_pos c18] at H
         have c18b0 : decide (x9_3 < a1_0) = true := decide_eq_true c18
         clear c18
         by_cases c19 : (wrap64 (a2 + x9_3)) < a0_0
         ·rw [if_pos c19] at H
          have c19b0 : decide ((wrap64 (a2 + x9_3)) < a0_0) = true := decide_eq_true c19
          clear c19
          obtain ⟨ji20, hji20⟩ : ∃ j_ : Int, (wrap64 ((wrap64 (x8_1 * a1_0)) + x9_3)) = j_ := ⟨_, rfl⟩
          replace H : (if 0 ≤ (ji20) then (if (ji20) < (l1_2.length : Int) then (if 0 ≤ (wrap64 ((wrap64 ((wrap64 ((wrap64 (a3 + x8_1)) * a0_0)) + a2)) + x9_3)) then (if (wrap64 ((wrap64 ((wrap64 ((wrap64 (a3 + x8_1)) * a0_0)) + a2)) + x9_3)) < (x184002_3.length : Int) then (codec_paste.l1 k3 a2 a3 x8_1 (wrap64 (x9_3 + 1)) a0_0 a0_1 (x184002_3.set ((wrap64 ((wrap64 ((wrap64 ((wrap64 (a3 + x8_1)) * a0_0)) + a2)) + x9_3)) : Int).toNat (rd l1_2 (ji20))) a1_0 a1_1 l1_2) else (none)) else (none)) else (none)) else (none)) = some r := by first | (rw [hji20] at H; exact H) | (simp only [hji20] at H ⊢; exact H)
          have hji20w : (IntKind.i64.wrap ((wrap64 (x8_1 * a1_0)) + x9_3)) = ji20 := (i64_w _).trans hji20
          by_cases c21 : 0 ≤ (ji20)
          ·rw [if_pos c21] at H
           have c21b0 : decide (0 ≤ (ji20)) = true := decide_eq_true c21
           clear c21
           by_cases c22 : (ji20) < (l1_2.length : Int)
           ·rw [if_pos c22] at H
            have c22b0 : decide ((ji20) < (l1_2.length : Int)) = true := decide_eq_true c22
            clear c22
            obtain ⟨ji23, hji23⟩ : ∃ j_ : Int, (wrap64 ((wrap64 ((wrap64 ((wrap64 (a3 + x8_1)) * a0_0)) + a2)) + x9_3)) = j_ := ⟨_, rfl⟩
            replace H : (if 0 ≤ (ji23) then (if (ji23) < (x184002_3.length : Int) then (codec_paste.l1 k3 a2 a3 x8_1 (wrap64 (x9_3 + 1)) a0_0 a0_1 (x184002_3.set ((ji23) : Int).toNat (rd l1_2 (ji20))) a1_0 a1_1 l1_2) else (none)) else (none)) = some r := by first | (rw [hji23] at H; exact H) | (simp only [hji23] at H ⊢; exact H)
            have hji23w : (IntKind.i64.wrap ((wrap64 ((wrap64 ((wrap64 (a3 + x8_1)) * a0_0)) + a2)) + x9_3)) = ji23 := (i64_w _).trans hji23
            by_cases c24 : 0 ≤ (ji23)
            ·rw [if_pos c24] at H
             have c24b0 : decide (0 ≤ (ji23)) = true := decide_eq_true c24
             clear c24
             by_cases c25 : (ji23) < (x184002_3.length : Int)
             ·rw [if_pos c25] at H
              have c25b0 : decide ((ji23) < (x184002_3.length : Int)) = true := decide_eq_true c25
              clear c25
              obtain ⟨y186, hy186⟩ : ∃ y_ : List Int, y_ = (x184002_3.set ((ji23) : Int).toNat (rd l1_2 (ji20))) := ⟨_, rfl⟩
              replace H : (codec_paste.l1 k3 a2 a3 x8_1 (wrap64 (x9_3 + 1)) a0_0 a0_1 y186 a1_0 a1_1 l1_2) = some r := by first | (rw [hy186]; with_reducible exact H) | (have H2_ := (Option.bind_some _ _).symm.trans H; rw [hy186]; with_reducible exact H2_) | (have H2_ := (Option.bind_some _ _).symm.trans H; with_reducible exact H2_) | with_reducible exact H | (rw [hy186]; exact H) | exact H
              have Ny186 := Aside0.mk hy186
              clear hy186
              have H' := Aside0.mk H
              clear H
              have hnb27 := NB184_183.out
              have hnc27 := NB183_184.out
              have hcz28_0 : wr.cell? ⟨gb184, 0, none⟩ = some (.int .i64 a1_0) := (blk_cell BK184.out 0).trans rfl
              have hcz28_1 : wr.cell? ⟨gb184, 1, none⟩ = some (.int .i64 a1_1) := (blk_cell BK184.out 1).trans rfl
              have hcz28_2 : wr.cell? ⟨gb184, 2, none⟩ = some (.slice A1_2 l1_2.length c1_2) := (blk_cell BK184.out 2).trans rfl
              have hfz28_0 := blk_frozen BK184.out 0
              have hfz28_1 := blk_frozen BK184.out 1
              have hfz28_2 := blk_frozen BK184.out 2
              have hcz29_0 : wr.cell? ⟨gb183, 0, none⟩ = some (.int .i64 a0_0) := (blk_cell BK183.out 0).trans rfl
              have hcz29_1 : wr.cell? ⟨gb183, 1, none⟩ = some (.int .i64 a0_1) := (blk_cell BK183.out 1).trans rfl
              have hcz29_2 : wr.cell? ⟨gb183, 2, none⟩ = some (.slice Ao6 x184002_3.length co6) := (blk_cell BK183.out 2).trans rfl
              have hfz29_0 := blk_frozen BK183.out 0
              have hfz29_1 := blk_frozen BK183.out 1
              have hfz29_2 := blk_frozen BK183.out 2
              try go_wp2
              have n0_ := Aside0.mk (Kd.R_drew HO_184002.out)
              have n1_ := Aside0.mk (blk_drew BK183.out)
              have n2_ := Aside0.mk (blk_drew BK184.out)
              have n3_ := Aside0.mk (Kept.drew HK.out)
              have n4_ := Aside0.mk (below_drew1 HB.out)
              clear HO_184002
              clear BK183
              clear BK184
              clear HK
              clear HB
              have HO_184002 := n0_
              have BK183 := n1_
              have BK184 := n2_
              have HK := n3_
              have HB := n4_
              clear n0_ n1_ n2_ n3_ n4_
              have p185 : 0 ≤ ((ji20) : Int) := of_decide_eq_true (by first | (with_reducible assumption) | assumption)
              have q185 : (ji20) < (l1_2.length : Int) := of_decide_eq_true (by first | (with_reducible assumption) | assumption)
              obtain ⟨ad185, e185, hx185_0⟩ := Kd.at_int (Kd.C_kept_now HR1_2.out HK.out) (ji20) p185 q185
              have hw185_0 := hx185_0
              cases e185
              replace p185 := eq_true p185
              replace q185 := eq_true q185
              have p26 : 0 ≤ ((ji23) : Int) := of_decide_eq_true (by first | (with_reducible assumption) | assumption)
              have q26 : ((ji23) : Int) < ((x184002_3.length : Int) : Int) := of_decide_eq_true (by first | (with_reducible assumption) | assumption)
              obtain ⟨go26, co26, eo26, gb26, gl26, cl26, HG26⟩ := Kd.R_form HO_184002.out (by omega)
              (first | cases eo26 | (injection eo26 with ea_ en_ ec_; (first | subst ea_ | (injection ea_ with ea_; subst ea_)); subst ec_; clear en_))
              have GB26 := Aside0.mk gb26
              have GG26 := Aside0.mk HG26
              clear gb26 gl26 HG26
              have HMgo26 := Aside0.mk (show (P0_2_ go26 ∨ w.heap.size ≤ go26) from (HO_184002.out.1 _ rfl))
              obtain ⟨hx26_0, hf26_0⟩ := Kd.R_celln 0 HO_184002.out ((ji23) : Int) p26 q26
              replace p26 := eq_true p26
              replace q26 := eq_true q26
              have HP31 := Kd.R_putn HO_184002.out ((ji23) : Int) (rd l1_2 (ji20))
              rw [← Ny186.out] at HP31
              have HQ31 := Aside0.mk HP31
              clear HP31
              refine start_ (n := 24) (S := fun w' => w'.cell? ⟨gb183, 0, none⟩ = some (.int .i64 a0_0) ∧ w'.cell? ⟨gb183, 1, none⟩ = some (.int .i64 a0_1) ∧ w'.cell? ⟨gb183, 2, none⟩ = some (.slice (some ⟨go26, 0, none⟩) x184002_3.length co6) ∧ w'.cell? ⟨gb184, 0, none⟩ = some (.int .i64 a1_0) ∧ w'.cell? ⟨gb184, 1, none⟩ = some (.int .i64 a1_1) ∧ w'.cell? ⟨gb184, 2, none⟩ = some (.slice (some ad185) l1_2.length c1_2) ∧ w'.cell? (ad185.add ((ji20)).toNat) = some (.int .u32 (rd l1_2 (ji20)))) (ds := [23]) #[ff_,ff_,ff_,ff_,ff_,ff_,ff_,ff_,ff_,ff_,ff_,ff_,ff_,ff_,ff_,ff_,ff_,ff_,ff_,ff_,ff_,ff_,ff_,ff_] (by kernel_rfl) rfl rfl ⟨(blk_cell BK183.out 0).trans rfl, (blk_cell BK183.out 1).trans rfl, (blk_cell BK183.out 2).trans rfl, (blk_cell BK184.out 0).trans rfl, (blk_cell BK184.out 1).trans rfl, (blk_cell BK184.out 2).trans rfl, (Kd.foot_int (HR1_2.out _ (by repeat (first | exact HK.out | apply Kept.alloc | apply Kept.drewN | apply Kept.drew | refine Kept.setCell ?_ HMgo26.out _))) (ji20) (of_eq_true p185) (of_eq_true q185))⟩ (fun hHeld => ?_); refine with_tabW codec_paste.tab7 codec_paste.bits7 (fun HT_ HW_ => ?_)
              generalize wr.drew = w30 at HO_184002 BK183 BK184 HK HB GG26 HQ31 hf26_0 hx185_0 hx26_0 hHeld ⊢
              refine pure_ (i := 0) (N := some 44) (v := ?_) (a' := ?_) #[tt_,ff_,ff_,ff_,ff_,ff_,ff_,ff_,ff_,ff_,ff_,ff_,ff_,ff_,ff_,ff_,ff_,ff_,ff_,ff_,ff_,ff_,ff_,ff_] rfl rfl (any_of HT_.out (by kernel_rfl)) (fun _ _ _ h => h) (Or.inl ⟨by rfl, ?_⟩) ?_ ?_
              rotate_left
              ·intro w'
               go_simp
               with_reducible rfl
              rotate_left
              ·simp only [Act.put, List.setIfInBounds_toArray, List.set_cons_zero, List.set_cons_succ, i64_w, i32_w]
               rfl
              refine pure_ (i := 2) (N := some 46) (v := ?_) (a' := ?_) #[tt_,ff_,tt_,ff_,ff_,ff_,ff_,ff_,ff_,ff_,ff_,ff_,ff_,ff_,ff_,ff_,ff_,ff_,ff_,ff_,ff_,ff_,ff_,ff_] rfl rfl (any_of HT_.out (by kernel_rfl)) (fun _ _ _ h => h) (Or.inl ⟨by rfl, ?_⟩) ?_ ?_
              rotate_left
              ·intro w'
               go_simp
               with_reducible rfl
              rotate_left
              ·simp only [Act.put, List.setIfInBounds_toArray, List.set_cons_zero, List.set_cons_succ, i64_w, i32_w]
               rfl
              refine pure_ (i := 3) (N := some 47) (v := ?_) (a' := ?_) #[tt_,ff_,tt_,tt_,ff_,ff_,ff_,ff_,ff_,ff_,ff_,ff_,ff_,ff_,ff_,ff_,ff_,ff_,ff_,ff_,ff_,ff_,ff_,ff_] rfl rfl (any_of HT_.out (by kernel_rfl)) (fun _ _ _ h => h) (Or.inl ⟨by rfl, ?_⟩) ?_ ?_
              rotate_left
              ·intro w'
               go_simp
               with_reducible rfl
              rotate_left
              ·simp only [Act.put, List.setIfInBounds_toArray, List.set_cons_zero, List.set_cons_succ, i64_w, i32_w]
               rfl
              refine pure_ (i := 4) (N := some 48) (v := ?_) (a' := ?_) #[tt_,ff_,tt_,tt_,tt_,ff_,ff_,ff_,ff_,ff_,ff_,ff_,ff_,ff_,ff_,ff_,ff_,ff_,ff_,ff_,ff_,ff_,ff_,ff_] rfl rfl (any_of HT_.out (by kernel_rfl)) (fun _ _ _ h => h) (Or.inl ⟨by rfl, ?_⟩) ?_ ?_
              rotate_left
              ·intro w'
               go_simp
               with_reducible rfl
              rotate_left
              ·simp only [Act.put, List.setIfInBounds_toArray, List.set_cons_zero, List.set_cons_succ, i64_w, i32_w]
               rfl
              refine pure_ (i := 5) (N := some 49) (v := ?_) (a' := ?_) #[tt_,ff_,tt_,tt_,tt_,tt_,ff_,ff_,ff_,ff_,ff_,ff_,ff_,ff_,ff_,ff_,ff_,ff_,ff_,ff_,ff_,ff_,ff_,ff_] rfl rfl (any_of HT_.out (by kernel_rfl)) (fun _ _ _ h => h) (Or.inl ⟨by rfl, ?_⟩) ?_ ?_
              rotate_left
              ·intro w'
               go_simp
               with_reducible rfl
              rotate_left
              ·simp only [Act.put, List.setIfInBounds_toArray, List.set_cons_zero, List.set_cons_succ, i64_w, i32_w]
               rfl
              refine pure_ (i := 8) (N := some 52) (v := ?_) (a' := ?_) #[tt_,ff_,tt_,tt_,tt_,tt_,ff_,ff_,tt_,ff_,ff_,ff_,ff_,ff_,ff_,ff_,ff_,ff_,ff_,ff_,ff_,ff_,ff_,ff_] rfl rfl (any_of HT_.out (by kernel_rfl)) (fun _ _ _ h => h) (Or.inl ⟨by rfl, ?_⟩) ?_ ?_
              rotate_left
              ·intro w'
               go_simp
               with_reducible rfl
              rotate_left
              ·simp only [Act.put, List.setIfInBounds_toArray, List.set_cons_zero, List.set_cons_succ, i64_w, i32_w]
               rfl
              refine pure_ (i := 10) (N := some 54) (v := ?_) (a' := ?_) #[tt_,ff_,tt_,tt_,tt_,tt_,ff_,ff_,tt_,ff_,tt_,ff_,ff_,ff_,ff_,ff_,ff_,ff_,ff_,ff_,ff_,ff_,ff_,ff_] rfl rfl (any_of HT_.out (by kernel_rfl)) (fun _ _ _ h => h) (Or.inl ⟨by rfl, ?_⟩) ?_ ?_
              rotate_left
              ·intro w'
               go_simp
               with_reducible rfl
              rotate_left
              ·simp only [Act.put, List.setIfInBounds_toArray, List.set_cons_zero, List.set_cons_succ, i64_w, i32_w]
               rfl
              refine pure_ (i := 12) (N := some 56) (v := ?_) (a' := ?_) #[tt_,ff_,tt_,tt_,tt_,tt_,ff_,ff_,tt_,ff_,tt_,ff_,tt_,ff_,ff_,ff_,ff_,ff_,ff_,ff_,ff_,ff_,ff_,ff_] rfl rfl (any_of HT_.out (by kernel_rfl)) (fun _ _ _ h => h) (Or.inl ⟨by rfl, ?_⟩) ?_ ?_
              rotate_left
              ·intro w'
               go_simp
               with_reducible rfl
              rotate_left
              ·simp only [Act.put, List.setIfInBounds_toArray, List.set_cons_zero, List.set_cons_succ, i64_w, i32_w]
               rfl
              refine pure_ (i := 14) (N := some 58) (v := ?_) (a' := ?_) #[tt_,ff_,tt_,tt_,tt_,tt_,ff_,ff_,tt_,ff_,tt_,ff_,tt_,ff_,tt_,ff_,ff_,ff_,ff_,ff_,ff_,ff_,ff_,ff_] rfl rfl (any_of HT_.out (by kernel_rfl)) (fun _ _ _ h => h) (Or.inl ⟨by rfl, ?_⟩) ?_ ?_
              rotate_left
              ·intro w'
               go_simp
               with_reducible rfl
              rotate_left
              ·simp only [Act.put, List.setIfInBounds_toArray, List.set_cons_zero, List.set_cons_succ, i64_w, i32_w]
               rfl
              refine pure_ (i := 15) (N := some 59) (v := ?_) (a' := ?_) #[tt_,ff_,tt_,tt_,tt_,tt_,ff_,ff_,tt_,ff_,tt_,ff_,tt_,ff_,tt_,tt_,ff_,ff_,ff_,ff_,ff_,ff_,ff_,ff_] rfl rfl (any_of HT_.out (by kernel_rfl)) (fun _ _ _ h => h) (Or.inl ⟨by rfl, ?_⟩) ?_ ?_
              rotate_left
              ·intro w'
               go_simp
               with_reducible rfl
              rotate_left
              ·simp only [Act.put, List.setIfInBounds_toArray, List.set_cons_zero, List.set_cons_succ, i64_w, i32_w]
               rfl
              refine pure_ (i := 18) (N := some 62) (v := ?_) (a' := ?_) #[tt_,ff_,tt_,tt_,tt_,tt_,ff_,ff_,tt_,ff_,tt_,ff_,tt_,ff_,tt_,tt_,ff_,ff_,tt_,ff_,ff_,ff_,ff_,ff_] rfl rfl (any_of HT_.out (by kernel_rfl)) (fun _ _ _ h => h) (Or.inl ⟨by rfl, ?_⟩) ?_ ?_
              rotate_left
              ·intro w'
               go_simp
               with_reducible rfl
              rotate_left
              ·simp only [Act.put, List.setIfInBounds_toArray, List.set_cons_zero, List.set_cons_succ, i64_w, i32_w]
               rfl
              refine take_ (i := 1) (N := some 45) (v := ?_) (a' := ?_) #[tt_,tt_,tt_,tt_,tt_,tt_,ff_,ff_,tt_,ff_,tt_,ff_,tt_,ff_,tt_,tt_,ff_,ff_,tt_,ff_,ff_,ff_,ff_,ff_] rfl rfl (take_ofW HT_.out HW_.out (by kernel_rfl)) (fun _ _ _ h => h) (Or.inl ⟨by rfl, ?_⟩) hHeld ?_ ?_
              rotate_left
              ·rintro w' ⟨s0, s1, s2, s3, s4, s5, s6⟩
               go_simp
               with_reducible rfl
              rotate_left
              ·simp only [Act.put, List.setIfInBounds_toArray, List.set_cons_zero, List.set_cons_succ, i64_w, i32_w]
               rfl
              refine take_ (i := 6) (N := some 50) (v := ?_) (a' := ?_) #[tt_,tt_,tt_,tt_,tt_,tt_,tt_,ff_,tt_,ff_,tt_,ff_,tt_,ff_,tt_,tt_,ff_,ff_,tt_,ff_,ff_,ff_,ff_,ff_] rfl rfl (take_ofW HT_.out HW_.out (by kernel_rfl)) (fun _ _ _ h => h) (Or.inl ⟨by rfl, ?_⟩) hHeld ?_ ?_
              rotate_left
              ·rintro w' ⟨s0, s1, s2, s3, s4, s5, s6⟩
               go_simp
               with_reducible rfl
              rotate_left
              ·simp only [Act.put, List.setIfInBounds_toArray, List.set_cons_zero, List.set_cons_succ, i64_w, i32_w]
               rfl
              refine pure_ (i := 7) (N := some 51) (v := ?_) (a' := ?_) #[tt_,tt_,tt_,tt_,tt_,tt_,tt_,tt_,tt_,ff_,tt_,ff_,tt_,ff_,tt_,tt_,ff_,ff_,tt_,ff_,ff_,ff_,ff_,ff_] rfl rfl (any_of HT_.out (by kernel_rfl)) (fun _ _ _ h => h) (Or.inl ⟨by rfl, ?_⟩) ?_ ?_
              rotate_left
              ·intro w'
               go_simp
               with_reducible rfl
              rotate_left
              ·simp only [Act.put, List.setIfInBounds_toArray, List.set_cons_zero, List.set_cons_succ, i64_w, i32_w]
               rfl
              refine pure_ (i := 9) (N := some 53) (v := ?_) (a' := ?_) #[tt_,tt_,tt_,tt_,tt_,tt_,tt_,tt_,tt_,tt_,tt_,ff_,tt_,ff_,tt_,tt_,ff_,ff_,tt_,ff_,ff_,ff_,ff_,ff_] rfl rfl (any_of HT_.out (by kernel_rfl)) (fun _ _ _ h => h) (Or.inl ⟨by rfl, ?_⟩) ?_ ?_
              rotate_left
              ·intro w'
               go_simp
               with_reducible rfl
              rotate_left
              ·simp only [Act.put, List.setIfInBounds_toArray, List.set_cons_zero, List.set_cons_succ, i64_w, i32_w]
               rfl
              refine pure_ (i := 11) (N := some 55) (v := ?_) (a' := ?_) #[tt_,tt_,tt_,tt_,tt_,tt_,tt_,tt_,tt_,tt_,tt_,tt_,tt_,ff_,tt_,tt_,ff_,ff_,tt_,ff_,ff_,ff_,ff_,ff_] rfl rfl (any_of HT_.out (by kernel_rfl)) (fun _ _ _ h => h) (Or.inl ⟨by rfl, ?_⟩) ?_ ?_
              rotate_left
              ·intro w'
               go_simp
               with_reducible rfl
              rotate_left
              ·simp only [Act.put, List.setIfInBounds_toArray, List.set_cons_zero, List.set_cons_succ, i64_w, i32_w]
               rfl
              refine take_ (i := 13) (N := some 57) (v := ?_) (a' := ?_) #[tt_,tt_,tt_,tt_,tt_,tt_,tt_,tt_,tt_,tt_,tt_,tt_,tt_,tt_,tt_,tt_,ff_,ff_,tt_,ff_,ff_,ff_,ff_,ff_] rfl rfl (take_ofW HT_.out HW_.out (by kernel_rfl)) (fun _ _ _ h => h) (Or.inl ⟨by rfl, ?_⟩) hHeld ?_ ?_
              rotate_left
              ·rintro w' ⟨s0, s1, s2, s3, s4, s5, s6⟩
               go_simp
               with_reducible rfl
              rotate_left
              ·simp only [Act.put, List.setIfInBounds_toArray, List.set_cons_zero, List.set_cons_succ, i64_w, i32_w]
               rfl
              refine take_ (i := 16) (N := some 60) (v := ?_) (a' := ?_) #[tt_,tt_,tt_,tt_,tt_,tt_,tt_,tt_,tt_,tt_,tt_,tt_,tt_,tt_,tt_,tt_,tt_,ff_,tt_,ff_,ff_,ff_,ff_,ff_] rfl rfl (take_ofW HT_.out HW_.out (by kernel_rfl)) (fun _ _ _ h => h) (Or.inl ⟨by rfl, ?_⟩) hHeld ?_ ?_
              rotate_left
              ·rintro w' ⟨s0, s1, s2, s3, s4, s5, s6⟩
               go_simp
               with_reducible rfl
              rotate_left
              ·simp only [Act.put, List.setIfInBounds_toArray, List.set_cons_zero, List.set_cons_succ, i64_w, i32_w]
               rfl
              refine pure_ (i := 17) (N := some 61) (v := ?_) (a' := ?_) #[tt_,tt_,tt_,tt_,tt_,tt_,tt_,tt_,tt_,tt_,tt_,tt_,tt_,tt_,tt_,tt_,tt_,tt_,tt_,ff_,ff_,ff_,ff_,ff_] rfl rfl (any_of HT_.out (by kernel_rfl)) (fun _ _ _ h => h) (Or.inl ⟨by rfl, ?_⟩) ?_ ?_
              rotate_left
              ·intro w'
               go_simp
               with_reducible rfl
              rotate_left
              ·simp only [Act.put, List.setIfInBounds_toArray, List.set_cons_zero, List.set_cons_succ, i64_w, i32_w]
               rfl
              refine pure_ (i := 19) (N := some 63) (v := ?_) (a' := ?_) #[tt_,tt_,tt_,tt_,tt_,tt_,tt_,tt_,tt_,tt_,tt_,tt_,tt_,tt_,tt_,tt_,tt_,tt_,tt_,tt_,ff_,ff_,ff_,ff_] rfl rfl (any_of HT_.out (by kernel_rfl)) (fun _ _ _ h => h) (Or.inl ⟨by rfl, ?_⟩) ?_ ?_
              rotate_left
              ·intro w'
               go_simp
               with_reducible rfl
              rotate_left
              ·simp only [Act.put, List.setIfInBounds_toArray, List.set_cons_zero, List.set_cons_succ, i64_w, i32_w]
               rfl
              refine pure_ (i := 20) (N := some 64) (v := ?_) (a' := ?_) #[tt_,tt_,tt_,tt_,tt_,tt_,tt_,tt_,tt_,tt_,tt_,tt_,tt_,tt_,tt_,tt_,tt_,tt_,tt_,tt_,tt_,ff_,ff_,ff_] rfl rfl (any_of HT_.out (by kernel_rfl)) (fun _ _ _ h => h) (Or.inl ⟨by rfl, ?_⟩) ?_ ?_
              rotate_left
              ·intro w'
               go_simp
               with_reducible rfl
              rotate_left
              ·simp only [Act.put, List.setIfInBounds_toArray, List.set_cons_zero, List.set_cons_succ, i64_w, i32_w]
               rfl
              refine take_ (i := 21) (N := some 65) (v := ?_) (a' := ?_) #[tt_,tt_,tt_,tt_,tt_,tt_,tt_,tt_,tt_,tt_,tt_,tt_,tt_,tt_,tt_,tt_,tt_,tt_,tt_,tt_,tt_,tt_,ff_,ff_] rfl rfl (take_ofW HT_.out HW_.out (by kernel_rfl)) (fun _ _ _ h => h) (Or.inl ⟨by rfl, ?_⟩) hHeld ?_ ?_
              rotate_left
              ·rintro w' ⟨s0, s1, s2, s3, s4, s5, s6⟩
               go_simp
               with_reducible rfl
              rotate_left
              ·simp only [Act.put, List.setIfInBounds_toArray, List.set_cons_zero, List.set_cons_succ, i64_w, i32_w]
               rfl
              refine pure_ (i := 22) (N := some 66) (v := ?_) (a' := ?_) #[tt_,tt_,tt_,tt_,tt_,tt_,tt_,tt_,tt_,tt_,tt_,tt_,tt_,tt_,tt_,tt_,tt_,tt_,tt_,tt_,tt_,tt_,tt_,ff_] rfl rfl (any_of HT_.out (by kernel_rfl)) (fun _ _ _ h => h) (Or.inl ⟨by rfl, ?_⟩) ?_ ?_
              rotate_left
              ·intro w'
               go_simp
               with_reducible rfl
              rotate_left
              ·simp only [Act.put, List.setIfInBounds_toArray, List.set_cons_zero, List.set_cons_succ, i64_w, i32_w]
               rfl
              refine last_ (i := 23) (N := none) #[tt_,tt_,tt_,tt_,tt_,tt_,tt_,tt_,tt_,tt_,tt_,tt_,tt_,tt_,tt_,tt_,tt_,tt_,tt_,tt_,tt_,tt_,tt_,tt_] rfl rfl (one_of HT_.out (by kernel_rfl)) (by decide) (fun K hK => ?_)
              refine skip_ (w1 := ?_) (by rfl) rfl ?_ ?_
              rotate_left
              ·go_simp
               rfl
              refine hK.out _ _ ?_
              clear hK K
              refine done_ (done_of HT_.out (by kernel_rfl)) ?_
              try go_wp2
              (try simp only [← hl184002_3])
              go_roundg k3
              case measure => have := HK1.out; have := HJ8.out; have := HK3.out; omega
              case rel => exact ⟨(wrap64 (x9_3 + 1)), (y186), (by first | rfl | (simp; done) | (simp [*]; done)), H', ⟨by have := HK1.out; have := HJ8.out; have := HK3.out; omega⟩, ⟨by (try simp only [hl184002_1]); (try simp only [hl184002_3]); (with_reducible repeat (first | apply Kd.R_alloc | apply Kd.R_drewN | apply Kd.R_drew)); exact HQ31.out⟩, ⟨by (try simp only [hl184002_1]); (try simp only [hl184002_3]); (with_reducible repeat (first | refine blk_drewN ?_ _ | refine blk_drew ?_ | refine blk_alloc ?_ _)); refine blk_far ?_ (by have h_ := Kd.R_ne HO_184002.out BK183.out (by decide); intro e_; exact h_ (by rw [e_]; rfl)) _; (with_reducible repeat (first | refine blk_drewN ?_ _ | refine blk_drew ?_ | refine blk_alloc ?_ _)); exact BK183.out⟩, ⟨by (try simp only [hl184002_1]); (try simp only [hl184002_3]); (with_reducible repeat (first | refine blk_drewN ?_ _ | refine blk_drew ?_ | refine blk_alloc ?_ _)); refine blk_far ?_ (by have h_ := Kd.R_ne HO_184002.out BK184.out (by decide); intro e_; exact h_ (by rw [e_]; rfl)) _; (with_reducible repeat (first | refine blk_drewN ?_ _ | refine blk_drew ?_ | refine blk_alloc ?_ _)); exact BK184.out⟩, ⟨by repeat (first | (with_reducible first | exact HK.out | apply Kept.alloc | apply Kept.drewN | apply Kept.drew | refine Kept.setCell ?_ HMgo26.out _ | refine Kept.setCell ?_ (.inr GW183.out) _ | refine Kept.setCell ?_ (.inr GW184.out) _) | exact HK.out)⟩, ⟨by repeat (first | (with_reducible first | exact HB.out | apply below_alloc | apply pw_below_drewN | apply below_drew1 | refine below_set ?_ GB26.out | refine below_set ?_ GE183.out | refine below_set ?_ GE184.out) | exact HB.out)⟩⟩
             ·rw [if_neg c25] at H
              exact absurd H (by simp)
            ·rw [if_neg c24] at H
             exact absurd H (by simp)
           ·rw [if_neg c22] at H
            exact absurd H (by simp)
          ·rw [if_neg c21] at H
           exact absurd H (by simp)
         ·rw [if_neg c19] at H
          have c19b0 : decide ((wrap64 (a2 + x9_3)) < a0_0) = false := decide_eq_false c19
          clear c19
          have H' := Aside0.mk H
          clear H
          have hnb32 := NB184_183.out
          have hnc32 := NB183_184.out
          have hcz33_0 : wr.cell? ⟨gb184, 0, none⟩ = some (.int .i64 a1_0) := (blk_cell BK184.out 0).trans rfl
          have hcz33_1 : wr.cell? ⟨gb184, 1, none⟩ = some (.int .i64 a1_1) := (blk_cell BK184.out 1).trans rfl
          have hcz33_2 : wr.cell? ⟨gb184, 2, none⟩ = some (.slice A1_2 l1_2.length c1_2) := (blk_cell BK184.out 2).trans rfl
          have hfz33_0 := blk_frozen BK184.out 0
          have hfz33_1 := blk_frozen BK184.out 1
          have hfz33_2 := blk_frozen BK184.out 2
          have hcz34_0 : wr.cell? ⟨gb183, 0, none⟩ = some (.int .i64 a0_0) := (blk_cell BK183.out 0).trans rfl
          have hcz34_1 : wr.cell? ⟨gb183, 1, none⟩ = some (.int .i64 a0_1) := (blk_cell BK183.out 1).trans rfl
          have hcz34_2 : wr.cell? ⟨gb183, 2, none⟩ = some (.slice Ao6 x184002_3.length co6) := (blk_cell BK183.out 2).trans rfl
          have hfz34_0 := blk_frozen BK183.out 0
          have hfz34_1 := blk_frozen BK183.out 1
          have hfz34_2 := blk_frozen BK183.out 2
          go_wp2
          (try simp only [← hl184002_1, ← hl184002_3])
          go_roundg k3
          case measure => have := HK1.out; have := HJ8.out; have := HK3.out; omega
          case rel => exact ⟨(wrap64 (x8_1 + 1)), (x184002_3), (by first | rfl | (simp; done) | (simp [*]; done)), H', ⟨by have := HK1.out; have := HJ8.out; have := HK3.out; omega⟩, ⟨by (try simp only [hl184002_1]); (try simp only [hl184002_3]); (with_reducible repeat (first | apply Kd.R_alloc | apply Kd.R_drewN | apply Kd.R_drew)); exact HO_184002.out⟩, ⟨by (try simp only [hl184002_1]); (try simp only [hl184002_3]); (with_reducible repeat (first | refine blk_drewN ?_ _ | refine blk_drew ?_ | refine blk_alloc ?_ _)); exact BK183.out⟩, ⟨by (try simp only [hl184002_1]); (try simp only [hl184002_3]); (with_reducible repeat (first | refine blk_drewN ?_ _ | refine blk_drew ?_ | refine blk_alloc ?_ _)); exact BK184.out⟩, ⟨by repeat (first | (with_reducible first | exact HK.out | apply Kept.alloc | apply Kept.drewN | apply Kept.drew | refine Kept.setCell ?_ (.inr GW183.out) _ | refine Kept.setCell ?_ (.inr GW184.out) _) | exact HK.out)⟩, ⟨by repeat (first | (with_reducible first | exact HB.out | apply below_alloc | apply pw_below_drewN | apply below_drew1 | refine below_set ?_ GE183.out | refine below_set ?_ GE184.out) | exact HB.out)⟩⟩
        ·rw [if_neg c18] at H
         have c18b0 : decide (x9_3 < a1_0) = false := decide_eq_false c18
         clear c18
         have H' := Aside0.mk H
         clear H
         have hnb35 := NB184_183.out
         have hnc35 := NB183_184.out
         have hcz36_0 : wr.cell? ⟨gb184, 0, none⟩ = some (.int .i64 a1_0) := (blk_cell BK184.out 0).trans rfl
         have hcz36_1 : wr.cell? ⟨gb184, 1, none⟩ = some (.int .i64 a1_1) := (blk_cell BK184.out 1).trans rfl
         have hcz36_2 : wr.cell? ⟨gb184, 2, none⟩ = some (.slice A1_2 l1_2.length c1_2) := (blk_cell BK184.out 2).trans rfl
         have hfz36_0 := blk_frozen BK184.out 0
         have hfz36_1 := blk_frozen BK184.out 1
         have hfz36_2 := blk_frozen BK184.out 2
         go_wp2
         (try simp only [← hl184002_1, ← hl184002_3])
         go_roundg k3
         case measure => have := HK1.out; have := HJ8.out; have := HK3.out; omega
         case rel => exact ⟨(wrap64 (x8_1 + 1)), (x184002_3), (by first | rfl | (simp; done) | (simp [*]; done)), H', ⟨by have := HK1.out; have := HJ8.out; have := HK3.out; omega⟩, ⟨by (try simp only [hl184002_1]); (try simp only [hl184002_3]); (with_reducible repeat (first | apply Kd.R_alloc | apply Kd.R_drewN | apply Kd.R_drew)); exact HO_184002.out⟩, ⟨by (try simp only [hl184002_1]); (try simp only [hl184002_3]); (with_reducible repeat (first | refine blk_drewN ?_ _ | refine blk_drew ?_ | refine blk_alloc ?_ _)); exact BK183.out⟩, ⟨by (try simp only [hl184002_1]); (try simp only [hl184002_3]); (with_reducible repeat (first | refine blk_drewN ?_ _ | refine blk_drew ?_ | refine blk_alloc ?_ _)); exact BK184.out⟩, ⟨by repeat (first | (with_reducible first | exact HK.out | apply Kept.alloc | apply Kept.drewN | apply Kept.drew | refine Kept.setCell ?_ (.inr GW183.out) _ | refine Kept.setCell ?_ (.inr GW184.out) _) | exact HK.out)⟩, ⟨by repeat (first | (with_reducible first | exact HB.out | apply below_alloc | apply pw_below_drewN | apply below_drew1 | refine below_set ?_ GE183.out | refine below_set ?_ GE184.out) | exact HB.out)⟩⟩
     ·replace c16 := Bool.eq_false_iff.mpr c16
      subst c16
      have H1 : (some x184002_1) = some r := by rw [if_neg (show ¬ (false = true) by decide)] at H; exact H
      clear H
      have H := H1
      clear H1
      obtain rfl := Option.some.inj H
      go_wp2
      first | go_end0 | ((try simp only [Exit.inBlock, Exit.then]); refine bodyPost_ret (results_none rfl _ _ _) rfl ?_)
      exact ⟨by first | rfl | (simp [errW_none, errW_some] <;> rfl) | (simp only [← hji5]; first | rfl | (simp [errW_none, errW_some] <;> rfl)) | (simp [*, errW_none, errW_some] <;> rfl), (by first | exact (by (with_reducible repeat (first | apply Kd.R_alloc | apply Kd.R_drewN | apply Kd.R_drew)); exact HO_184002.out) | (simp only [hl184002_1]; exact (by (with_reducible repeat (first | apply Kd.R_alloc | apply Kd.R_drewN | apply Kd.R_drew)); exact HO_184002.out))), by repeat (first | (with_reducible first | exact HB.out | apply below_alloc | apply pw_below_drewN | apply below_drew1 | refine below_set ?_ GE183.out | refine below_set ?_ GE184.out) | exact HB.out), by repeat (first | (with_reducible first | exact HK.out | apply Kept.alloc | apply Kept.drewN | apply Kept.drew | refine Kept.setCell ?_ (.inr GW183.out) _ | refine Kept.setCell ?_ (.inr GW184.out) _) | exact HK.out)⟩

-- NOT PRINTED: function 36 (codec_Decode)

-- NOT PRINTED: function 37 (codec_Read)

-- NOT PRINTED: function 40 (codec_Region)

def halidehelp_Ints.l0 : Nat → List Int → List Int → Int → Option (Bool)
 | 0, _, _, _ => none
 | k + 1, x0, x1, x5 => if x5 < (x0.length : Int) then (if 0 ≤ x5 then (if x5 < (x1.length : Int) then (if (rd x0 x5) = (rd x1 x5) then (halidehelp_Ints.l0 k x0 x1 (wrap64 (x5 + 1))) else (some false)) else (none)) else (none)) else (some true)
def halidehelp_Ints.f (k : Nat) (l0 : List Int) (l1 : List Int) : Option (Bool) := if (l0.length : Int) = (l1.length : Int) then (halidehelp_Ints.l0 k l0 l1 0) else (some false)
theorem halidehelp_Ints.mono_l : ∀ k, (∀ y0 y1 y2, LeO (halidehelp_Ints.l0 k y0 y1 y2) (halidehelp_Ints.l0 (k + 1) y0 y1 y2))
 | 0 => fun _ _ _ r h => by simp [halidehelp_Ints.l0] at h
 | k + 1 => by
  have ih0 := halidehelp_Ints.mono_l k
  ·intro y0 y1 y2
   unfold halidehelp_Ints.l0
   repeat' first
   | (with_reducible exact ih0 _ _ _)
   | (with_reducible exact LeO.refl _)
   | (with_reducible exact LeO.none _)
   | (with_reducible refine LeO.ite ?_ ?_)
   | (with_reducible refine LeO.bind ?_ (fun _ => ?_))
   | exact ih0 _ _ _
   | exact LeO.none _
   | refine LeO.ite ?_ ?_
   | refine LeO.bind ?_ (fun _ => ?_)
theorem halidehelp_Ints.mono : ∀ a0 a1 k, LeO (halidehelp_Ints.f k a0 a1) (halidehelp_Ints.f (k + 1) a0 a1) := by
 intro a0 a1 k
 have ih0 := halidehelp_Ints.mono_l k
 unfold halidehelp_Ints.f
 repeat' first
     | (with_reducible exact ih0 _ _ _)
     | (with_reducible exact LeO.refl _)
     | (with_reducible exact LeO.none _)
     | (with_reducible refine LeO.ite ?_ ?_)
     | (with_reducible refine LeO.bind ?_ (fun _ => ?_))
     | exact ih0 _ _ _
     | exact LeO.none _
     | refine LeO.ite ?_ ?_
     | refine LeO.bind ?_ (fun _ => ?_)
set_option maxHeartbeats 8000000 in
set_option maxRecDepth 100000 in
theorem halidehelp_Ints.calls (k : Nat) (A0 : Option Addr) (c0 : Nat) (l0 : List Int) (A1 : Option Addr) (c1 : Nat) (l1 : List Int) (r : Bool) (w : World) (hr0 : Kd.C (Kd.int .i64) w A0 l0.length l0) (hc0 : l0.length ≤ c0) (hr1 : Kd.C (Kd.int .i64) w A1 l1.length l1) (hc1 : l1.length ≤ c1) (h : halidehelp_Ints.f k l0 l1 = some r) :
    Calls Try.prog 41 #[.slice A0 l0.length c0, .slice A1 l1.length c1] w fun e w' => e = .returned (.bool r) ∧ Drawn0 w w' := by
 have HR0 := Aside0.mk hr0
 have HC0 := Aside0.mk hc0
 clear hr0 hc0
 have HR1 := Aside0.mk hr1
 have HC1 := Aside0.mk hc1
 clear hr1 hc1
 have H : (if (l0.length : Int) = (l1.length : Int) then (halidehelp_Ints.l0 k l0 l1 0) else (some false)) = some r := h
 clear h
 by_cases c3 : (l0.length : Int) = (l1.length : Int)
 ·rw [if_pos c3] at H
  have c3b0 : ((l0.length : Int) == (l1.length : Int)) = true := beq_iff_eq.mpr c3
  have c3b1 : ((l0.length : Int) != (l1.length : Int)) = false := bne_eq_false_iff_eq.mpr c3
  have c3b2 : (l0.length == l1.length) = true := by first | simpa using c3 | (simp at c3 ⊢; omega)
  clear c3
  have H' := Aside0.mk H
  clear H
  go_enter Try.func41, Try.ntmps41
  go_wp2
  repeat (go_quiet (fail); try go_wp2)
  go_loopg [5] k (fun kq v5 w' => ∃ (x5_1 : Int), v5 = .int .i64 x5_1 ∧ Aside0 (halidehelp_Ints.l0 kq l0 l1 x5_1 = some r) ∧ Aside0 (kq ≤ k) ∧ Drawn0 w w')
  case atStart => exact ⟨(0), (by first | rfl | (simp; done) | (simp [*]; done)), H', ⟨Nat.le_refl _⟩, by repeat (first | exact Drawn0.refl _ | apply Drawn0.step)⟩
  case round =>
   clear H'
   try clear c1
   try clear p2
   try clear c3
   try clear c3b0
   try clear c3b1
   try clear c3b2
   obtain ⟨x5_1, rfl, HA, HK1, ⟨m1, rfl⟩⟩ := hrel
   cases gk with
   | zero => exact absurd HA.out (by simp [halidehelp_Ints.l0])
   | succ k1 =>
    have H := HA.out
    clear HA
    simp only [halidehelp_Ints.l0] at H
    by_cases c4 : x5_1 < (l0.length : Int)
    ·rw [if_pos c4] at H
     have c4b0 : decide (x5_1 < (l0.length : Int)) = true := decide_eq_true c4
     clear c4
     by_cases c5 : 0 ≤ x5_1
     ·rw [if_pos c5] at H
      have c5b0 : decide (0 ≤ x5_1) = true := decide_eq_true c5
      clear c5
      by_cases c6 : x5_1 < (l1.length : Int)
      ·rw [if_pos c6] at H
       have c6b0 : decide (x5_1 < (l1.length : Int)) = true := decide_eq_true c6
       clear c6
       by_cases c7 : (rd l0 x5_1) = (rd l1 x5_1)
       ·rw [if_pos c7] at H
        have c7b0 : ((rd l0 x5_1) == (rd l1 x5_1)) = true := beq_iff_eq.mpr c7
        have c7b1 : ((rd l0 x5_1) != (rd l1 x5_1)) = false := bne_eq_false_iff_eq.mpr c7
        clear c7
        have H' := Aside0.mk H
        clear H
        have p191 : 0 ≤ (x5_1 : Int) := of_decide_eq_true (by first | (with_reducible assumption) | assumption)
        have q191 : x5_1 < (l0.length : Int) := of_decide_eq_true (by first | (with_reducible assumption) | assumption)
        obtain ⟨ad191, e191, hx191_0⟩ := Kd.at_int HR0.out x5_1 p191 q191
        cases e191
        replace p191 := eq_true p191
        replace q191 := eq_true q191
        have p192 : 0 ≤ (x5_1 : Int) := of_decide_eq_true (by first | (with_reducible assumption) | assumption)
        have q192 : x5_1 < (l1.length : Int) := of_decide_eq_true (by first | (with_reducible assumption) | assumption)
        obtain ⟨ad192, e192, hx192_0⟩ := Kd.at_int HR1.out x5_1 p192 q192
        cases e192
        replace p192 := eq_true p192
        replace q192 := eq_true q192
        go_wp2
        repeat (go_quiet (fail); try go_wp2)
        go_roundg k1
        case measure => have := HK1.out; omega
        case rel => exact ⟨(wrap64 (x5_1 + 1)), (by first | rfl | (simp; done) | (simp [*]; done)), H', ⟨by have := HK1.out; omega⟩, by repeat (first | exact Drawn0.refl _ | apply Drawn0.step)⟩
       ·rw [if_neg c7] at H
        have c7b0 : ((rd l0 x5_1) == (rd l1 x5_1)) = false := beq_eq_false_iff_ne.mpr c7
        have c7b1 : ((rd l0 x5_1) != (rd l1 x5_1)) = true := bne_iff_ne.mpr c7
        obtain rfl := Option.some.inj H
        have p191 : 0 ≤ (x5_1 : Int) := of_decide_eq_true (by first | (with_reducible assumption) | assumption)
        have q191 : x5_1 < (l0.length : Int) := of_decide_eq_true (by first | (with_reducible assumption) | assumption)
        obtain ⟨ad191, e191, hx191_0⟩ := Kd.at_int HR0.out x5_1 p191 q191
        cases e191
        replace p191 := eq_true p191
        replace q191 := eq_true q191
        have p192 : 0 ≤ (x5_1 : Int) := of_decide_eq_true (by first | (with_reducible assumption) | assumption)
        have q192 : x5_1 < (l1.length : Int) := of_decide_eq_true (by first | (with_reducible assumption) | assumption)
        obtain ⟨ad192, e192, hx192_0⟩ := Kd.at_int HR1.out x5_1 p192 q192
        cases e192
        replace p192 := eq_true p192
        replace q192 := eq_true q192
        go_wp2
        repeat (go_quiet (fail); try go_wp2)
        go_ret
        exact ⟨by first | rfl | (simp; done) | (simp [*]; done), by repeat (first | exact Drawn0.refl _ | apply Drawn0.step)⟩
      ·rw [if_neg c6] at H
       exact absurd H (by simp)
     ·rw [if_neg c5] at H
      exact absurd H (by simp)
    ·rw [if_neg c4] at H
     have c4b0 : decide (x5_1 < (l0.length : Int)) = false := decide_eq_false c4
     clear c4
     obtain rfl := Option.some.inj H
     go_wp2
     repeat (go_quiet (fail); try go_wp2)
     go_ret
     exact ⟨by first | rfl | (simp; done) | (simp [*]; done), by repeat (first | exact Drawn0.refl _ | apply Drawn0.step)⟩
 ·rw [if_neg c3] at H
  have c3b0 : ((l0.length : Int) == (l1.length : Int)) = false := beq_eq_false_iff_ne.mpr c3
  have c3b1 : ((l0.length : Int) != (l1.length : Int)) = true := bne_iff_ne.mpr c3
  have c3b2 : (l0.length == l1.length) = false := by first | simpa using c3 | (simp at c3 ⊢; omega)
  obtain rfl := Option.some.inj H
  go_enter Try.func41, Try.ntmps41
  go_wp2
  repeat (go_quiet (fail); try go_wp2)
  go_ret
  exact ⟨by first | rfl | (simp; done) | (simp [*]; done), by repeat (first | exact Drawn0.refl _ | apply Drawn0.step)⟩

-- NOT PRINTED: function 15 (halidelaw18_known)

-- NOT PRINTED: function 3 (halidelaw18_CodecNames)

end Go.Proofs.Ytbbebhdcfopmmaa.PCodecNames
end
section
set_option linter.unusedVariables false
set_option linter.unusedSimpArgs false
namespace Go.Proofs.Ytbbebhdcfopmmaa.A
open Go.RowKit Go.Proofs.YtbbebhdcfopmmaaW.PrintWords Go.Proofs.YtbbebhdcfopmmaaW.PrintLast Go.Proofs.YtbbebhdcfopmmaaW.PrintMore Go.Proofs.Ytbbebhdcfopmmaa.PCodecNames

/-- numbers as whole numbers -/
def ints (l : List Nat) : List Int := l.map (fun n : Nat => (n : Int))
@[simp] theorem ints_length (l : List Nat) : (ints l).length = l.length := by simp [ints]
theorem ints_append (a b : List Nat) : ints (a ++ b) = ints a ++ ints b := by simp [ints]
theorem ints_inj {a b : List Nat} (h : ints a = ints b) : a = b := by
 have := congrArg (List.map Int.toNat) h
 simpa [ints, Function.comp_def] using this
theorem ints_getD (l : List Nat) (i : Nat) : (ints l).getD i 0 = ((gt l i : Nat) : Int) := by
 unfold gt ints
 rw [List.getD_eq_getElem?_getD, List.getD_eq_getElem?_getD, List.getElem?_map]
 cases l[i]? <;> rfl
theorem rd_ints (l : List Nat) (i : Nat) : rd (ints l) (i : Int) = ((gt l i : Nat) : Int) := by
 unfold rd; rw [Int.toNat_natCast]; exact ints_getD l i
theorem ints_set (l : List Nat) (i v : Nat) : (ints l).set i (v : Int) = ints (l.set i v) := by simp [ints, List.map_set]
theorem ints_replicate (n v : Nat) : List.replicate n (v : Int) = ints (List.replicate n v) := by simp [ints]
section
variable {k : IntKind} {w : World} {A : Option Addr} {n : Nat} {xs : List Nat} {e : TypeId} {B : Nat} {ok : Nat → Prop} {v : Value}
theorem C_ints (h : (nat k).C w A n xs) : (Kd.int k).C w A n (ints xs) := by
 obtain ⟨h1, h2, h3⟩ := Kd.reads_of_C (d := 0) h
 refine Kd.C_of_reads (d := 0) ⟨by rw [ints_length]; exact h1, h2, fun hp => ?_⟩
 obtain ⟨ad, he, hc⟩ := h3 hp
 refine ⟨ad, he, fun j hj => ?_⟩
 rw [hc j hj, ints_getD]
 rfl
theorem C_nats (h : (Kd.int k).C w A n (ints xs)) : (nat k).C w A n xs := by
 obtain ⟨h1, h2, h3⟩ := Kd.reads_of_C (d := 0) h
 refine Kd.C_of_reads (d := 0) ⟨by rw [ints_length] at h1; exact h1, h2, fun hp => ?_⟩
 obtain ⟨ad, he, hc⟩ := h3 hp
 refine ⟨ad, he, fun j hj => ?_⟩
 have := hc j hj
 rw [ints_getD] at this
 exact this
theorem encs_ints : encs (Value.int k) (ints xs) = encs (fun x : Nat => Value.int k x) xs := by simp [encs, ints, Function.comp_def]
theorem R_ints (h : (nat k).R e w B ok v xs) : (Kd.int k).R e w B ok v (ints xs) := by
 refine Kd.R_of_own ?_ h.1
 rw [ints_length, encs_ints]
 exact Kd.own_of_R h
theorem R_nats (h : (Kd.int k).R e w B ok v (ints xs)) : (nat k).R e w B ok v xs := by
 refine Kd.R_of_own ?_ h.1
 have h2 := Kd.own_of_R h
 rw [ints_length, encs_ints] at h2
 exact h2
end
theorem w64 {n : Int} (h0 : -9223372036854775808 ≤ n) (h1 : n < 9223372036854775808) : wrap64 n = n := by unfold wrap64; omega
theorem w64n {n : Nat} (h1 : n < 9223372036854775808) : wrap64 (n : Int) = (n : Int) := w64 (by omega) (by omega)

theorem key_f {d : Nat} (h : d < 4294967296) : bits_Key.f (d : Int) = some ((key d : Nat) : Int) := by
 unfold bits_Key.f key
 split <;> split <;> first | omega | (rw [Option.some.injEq]; omega)
theorem fromKey_f {d : Nat} (h : d < 4294967296) : bits_FromKey.f (d : Int) = some ((fromKey d : Nat) : Int) := by
 unfold bits_FromKey.f fromKey
 split <;> split <;> first | omega | (rw [Option.some.injEq]; omega)
theorem middle_f (a b c : Int) : codec_middle.f a b c = some (mid a b c) := by
 unfold codec_middle.f mid mx mn
 rw [Option.some.injEq]
 simp only [Int.max_def, Int.min_def]
 repeat' split
 all_goals omega
theorem u32_id {m : Nat} (h : m < 4294967296) : (m : Int) % 4294967296 = (m : Int) := by omega
theorem bnd {α β : Type} {o : Option α} {a : α} {f : α → Option β} {r : Option β} (h : o = some a) (h2 : f a = r) : o.bind f = r := by subst h; exact h2
theorem guess_w {x y z : Nat} (k1 : x < 4294967296) (k2 : y < 4294967296) (k3 : z < 4294967296) : wrap64 (wrap64 (wrap64 (x : Int) + wrap64 (y : Int)) - wrap64 (z : Int)) = (x : Int) + (y : Int) - (z : Int) := by
 unfold wrap64; omega
theorem guess_f {l a c : Nat} (hl : l < 4294967296) (ha : a < 4294967296) (hc : c < 4294967296) : codec_Guess.f (l : Int) (a : Int) (c : Int) = some ((guess l a c : Nat) : Int) := by
 have k1 := key_lt hl; have k2 := key_lt ha; have k3 := key_lt hc
 unfold codec_Guess.f
 refine bnd (key_f hl) (bnd (key_f ha) (bnd (key_f hc) ?_))
 show (codec_middle.f (wrap64 (key l : Int)) (wrap64 (key a : Int)) (wrap64 (wrap64 (wrap64 (key l : Int) + wrap64 (key a : Int)) - wrap64 (key c : Int)))).bind (fun t106 => (bits_FromKey.f (t106 % 4294967296)).bind (fun t107 => some t107)) = _
 rw [guess_w k1 k2 k3, w64n (n := key l) (Nat.lt_trans k1 (by decide)), w64n (n := key a) (Nat.lt_trans k2 (by decide))]
 refine bnd (middle_f _ _ _) ?_
 obtain ⟨h0, h1⟩ := mid_range (a := (key l : Int)) (b := (key a : Int)) ((key l : Int) + (key a : Int) - (key c : Int)) ⟨Int.natCast_nonneg _, by omega⟩ ⟨Int.natCast_nonneg _, by omega⟩
 unfold guess
 obtain ⟨M, hM⟩ : ∃ M, M = mid (key l : Int) (key a : Int) ((key l : Int) + (key a : Int) - (key c : Int)) := ⟨_, rfl⟩
 rw [← hM] at h0 h1 ⊢
 clear hM k1 k2 k3
 obtain ⟨m, rfl⟩ : ∃ m : Nat, M = (m : Int) := ⟨M.toNat, by omega⟩
 have hm2 : m < 4294967296 := by omega
 rw [u32_id hm2, Int.toNat_natCast]
 exact bnd (fromKey_f hm2) rfl
end Go.Proofs.Ytbbebhdcfopmmaa.A
end
section
set_option linter.unusedVariables false
set_option linter.unusedSimpArgs false
namespace Go.Proofs.Ytbbebhdcfopmmaa.A
open Go.RowKit Go.Proofs.YtbbebhdcfopmmaaW.PrintWords Go.Proofs.YtbbebhdcfopmmaaW.PrintLast Go.Proofs.YtbbebhdcfopmmaaW.PrintMore Go.Proofs.Ytbbebhdcfopmmaa.PCodecNames

theorem ifp {α : Type} {p : Prop} [Decidable p] {a b r : α} (h : p) (h2 : a = r) : (if p then a else b) = r := by rw [if_pos h]; exact h2
theorem ifn {α : Type} {p : Prop} [Decidable p] {a b r : α} (h : ¬ p) (h2 : b = r) : (if p then a else b) = r := by rw [if_neg h]; exact h2
theorem modN (i W : Nat) : (i : Int) % (W : Int) = ((i % W : Nat) : Int) := by simp
theorem tmodN (i W : Nat) : (i : Int).tmod (W : Int) = ((i % W : Nat) : Int) := by rw [Int.tmod_eq_emod_of_nonneg (Int.natCast_nonneg _)]; exact modN i W
theorem divN (i W : Nat) : (i : Int) / (W : Int) = ((i / W : Nat) : Int) := by simp
theorem tdivN (i W : Nat) : (i : Int).tdiv (W : Int) = ((i / W : Nat) : Int) := by rw [Int.tdiv_eq_ediv_of_nonneg (Int.natCast_nonneg _)]; exact divN i W
theorem sub64 {a b c : Nat} (h : a = b + c) (hc : a < 9223372036854775808) : wrap64 ((a : Int) - (b : Int)) = (c : Int) := by unfold wrap64; omega
theorem sub641 {a c : Nat} (h : a = 1 + c) (hc : a < 9223372036854775808) : wrap64 ((a : Int) - 1) = (c : Int) := by unfold wrap64; omega
theorem add64 {a b : Nat} (hc : a + b < 9223372036854775808) : wrap64 ((a : Int) + (b : Int)) = ((a + b : Nat) : Int) := by unfold wrap64; omega
theorem add641 {a : Nat} (hc : a + 1 < 9223372036854775808) : wrap64 ((a : Int) + 1) = ((a + 1 : Nat) : Int) := by unfold wrap64; omega
/-- the guess at place i of rows of W -/
def guessN (xs : List Nat) (W i : Nat) : Nat := if i = 0 then 0 else if i / W = 0 then gt xs (i - 1) else if i % W = 0 then gt xs (i - W) else guess (gt xs (i - 1)) (gt xs (i - W)) (gt xs (i - W - 1))
theorem guessN_lt {xs : List Nat} {W i : Nat} (h : ∀ i, gt xs i < 4294967296) : guessN xs W i < 4294967296 := by
 unfold guessN
 split
 ·omega
 ·split
  ·exact h _
  ·split
   ·exact h _
   ·exact guess_lt (h _) (h _)
theorem rd_guard {xs : List Nat} {z : Int} {j : Nat} {r : Option Int} {f : Int → Option Int} (hz : z = (j : Int)) (hj : j < xs.length) (h : f ((gt xs j : Nat) : Int) = r) : (if 0 ≤ z then (if z < ((ints xs).length : Int) then f (rd (ints xs) z) else none) else none) = r := by
 subst hz
 rw [if_pos (Int.natCast_nonneg _), if_pos (by rw [ints_length]; omega), rd_ints]
 exact h
theorem rd_guard0 {xs : List Nat} {z : Int} {j : Nat} {r X : Option Int} (hz : z = (j : Int)) (hj : j < xs.length) (h : X = r) : (if 0 ≤ z then (if z < ((ints xs).length : Int) then X else none) else none) = r := by
 subst hz
 rw [if_pos (Int.natCast_nonneg _), if_pos (by rw [ints_length]; omega)]
 exact h
theorem guessed_j {xs : List Nat} {W i : Nat} (k : Nat) (hx : ∀ i, gt xs i < 4294967296) (hW : 0 < W) (hWl : W < 4611686018427387904) (hi : i ≤ xs.length) (hl : xs.length < 4611686018427387904) (b : Bool) (hb : b = decide (i = 0)) :
    codec_guessed.j0 (k + 1) (ints xs) (W : Int) (i : Int) ((i % W : Nat) : Int) ((i / W : Nat) : Int) b = some ((guessN xs W i : Nat) : Int) := by
 unfold codec_guessed.j0 guessN
 by_cases h0 : i = 0
 ·rw [if_pos h0]
  exact ifp (by rw [hb]; exact decide_eq_true h0) rfl
 rw [if_neg h0]
 refine ifn (by rw [hb, decide_eq_false h0]; decide) ?_
 obtain ⟨i1, hi1⟩ : ∃ i1, i = 1 + i1 := ⟨i - 1, by omega⟩
 have e1 : wrap64 ((i : Int) - 1) = (i1 : Int) := sub641 hi1 (by omega)
 have q1 : i - 1 = i1 := by omega
 by_cases hy : i / W = 0
 ·rw [if_pos hy, q1]
  exact ifp (by rw [hy]; rfl) (rd_guard (f := fun x => some x) e1 (by omega) rfl)
 rw [if_neg hy]
 refine ifn (by intro h; exact hy (by omega)) ?_
 have hWi : W ≤ i := by
  by_cases h : i < W
  ·exact absurd (Nat.div_eq_of_lt h) hy
  ·omega
 obtain ⟨i2, hi2⟩ : ∃ i2, i = W + i2 := ⟨i - W, by omega⟩
 have e2 : wrap64 ((i : Int) - (W : Int)) = (i2 : Int) := sub64 hi2 (by omega)
 have q2 : i - W = i2 := by omega
 rw [q2]
 by_cases hm : i % W = 0
 ·rw [if_pos hm]
  exact ifp (by rw [hm]; rfl) (rd_guard (f := fun x => some x) e2 (by omega) rfl)
 rw [if_neg hm, q1]
 refine ifn (by intro h; exact hm (by omega)) ?_
 have hne : i2 ≠ 0 := by
  intro h
  subst h
  exact hm (by rw [hi2]; simp)
 obtain ⟨i3, hi3⟩ : ∃ i3, i2 = 1 + i3 := ⟨i2 - 1, by omega⟩
 have e3 : wrap64 ((i2 : Int) - 1) = (i3 : Int) := sub641 hi3 (by omega)
 have q3 : i2 - 1 = i3 := by omega
 rw [q3]
 refine rd_guard0 e1 (by omega) (rd_guard0 e2 (by omega) ?_)
 rw [e2]
 refine rd_guard0 e3 (by omega) ?_
 rw [e1, e3, rd_ints, rd_ints, rd_ints]
 exact bnd (guess_f (hx _) (hx _) (hx _)) rfl
theorem guessed_f {xs : List Nat} {W i : Nat} (k : Nat) (hx : ∀ i, gt xs i < 4294967296) (hW : 0 < W) (hWl : W < 4611686018427387904) (hi : i ≤ xs.length) (hl : xs.length < 4611686018427387904) :
    codec_guessed.f (k + 1) (ints xs) (W : Int) (i : Int) = some ((guessN xs W i : Nat) : Int) := by
 unfold codec_guessed.f
 have hq : i / W ≤ i := Nat.div_le_self _ _
 rw [if_neg (by omega), tmodN, tdivN, w64n (Nat.lt_of_le_of_lt hq (by omega))]
 by_cases hm : i % W = 0
 ·refine ifp (by rw [hm]; rfl) (guessed_j k hx hW hWl hi hl _ ?_)
  by_cases h0 : i = 0
  ·subst h0
   rw [decide_eq_true rfl, beq_iff_eq, Nat.zero_div]; rfl
  ·rw [decide_eq_false h0, beq_eq_false_iff_ne]
   intro h
   have h1 : i / W = 0 := by omega
   have := Nat.div_add_mod i W
   rw [h1, hm] at this
   exact h0 (by simpa using this.symm)
 ·refine ifn (by intro h; exact hm (by omega)) (guessed_j k hx hW hWl hi hl _ ?_)
  rw [eq_comm, decide_eq_false_iff_not]
  intro h0
  rw [h0] at hm
  exact hm (Nat.zero_mod _)

def restAt (xs : List Nat) (W i : Nat) : Nat := (key (gt xs i) + 4294967296 - key (guessN xs W i)) % 4294967296
def restsTo (xs : List Nat) (W n : Nat) : List Nat := (List.range n).map (restAt xs W)
def restsN (xs : List Nat) (W : Nat) : List Nat := restsTo xs W xs.length
theorem restsTo_succ (xs : List Nat) (W n : Nat) : restsTo xs W (n + 1) = restsTo xs W n ++ [restAt xs W n] := by unfold restsTo; rw [List.range_succ, List.map_append]; rfl
@[simp] theorem restsTo_length (xs : List Nat) (W n : Nat) : (restsTo xs W n).length = n := by simp [restsTo]
theorem restAt_lt (xs : List Nat) (W i : Nat) : restAt xs W i < 4294967296 := Nat.mod_lt _ (by decide)
theorem restAt_cast {a b : Nat} (ha : a < 4294967296) (hb : b < 4294967296) : ((a : Int) - (b : Int)) % 4294967296 = (((a + 4294967296 - b) % 4294967296 : Nat) : Int) := by omega
theorem Rests_l {xs : List Nat} {W : Nat} (hx : ∀ i, gt xs i < 4294967296) (hW : 0 < W) (hWl : W < 4611686018427387904) (H : Int) (hl : xs.length < 35184372088832) : ∀ (d n k : Nat), n + d = xs.length → d + 1 ≤ k →
    codec_Rests.l0 (k + 1) (ints (restsTo xs W n)) (ints xs) ((ints xs).length : Int) (n : Int) (W : Int) H (ints xs) = some (ints (restsN xs W), 0) := by
 intro d
 induction d with
 | zero =>
  intro n k hn hk
  unfold codec_Rests.l0
  refine ifn (by rw [ints_length]; omega) ?_
  obtain rfl : n = xs.length := by omega
  rfl
 | succ d ih =>
  intro n k hn hk
  obtain ⟨k, rfl⟩ : ∃ k', k = k' + 1 := ⟨k - 1, by omega⟩
  unfold codec_Rests.l0
  refine ifp (by rw [ints_length]; omega) (ifp (by omega) (ifp (by rw [ints_length]; omega) ?_))
  rw [rd_ints]
  refine bnd (key_f (hx n)) (bnd (guessed_f k hx hW hWl (by omega) (by omega)) (bnd (key_f (guessN_lt hx)) ?_))
  rw [ints_length, restsTo_length]
  refine ifp (by omega) ?_
  rw [restAt_cast (key_lt (hx n)) (key_lt (guessN_lt hx)), add641 (by omega)]
  have e : ints (restsTo xs W n) ++ [(((key (gt xs n) + 4294967296 - key (guessN xs W n)) % 4294967296 : Nat) : Int)] = ints (restsTo xs W (n + 1)) := by rw [restsTo_succ, ints_append]; rfl
  rw [e]
  exact ih (n + 1) k (by omega) (by omega)
theorem checkE_f (x y : Int) (l : List Int) (hl : l.length < 4611686018427387904) : plane_Check.f x y l = some ((checkE x y l.length : Nat) : Int) := by
 unfold plane_Check.f plane_size.f checkE sizeB
 by_cases h1 : 1 ≤ x
 ·by_cases h2 : 1 ≤ y
  ·by_cases h3 : x ≤ 1024
   ·by_cases h4 : y ≤ 1024
    ·obtain ⟨p1, p2⟩ := prod_bound h1 h2 h3 h4
     have hw : wrap64 (x * y) = x * y := w64 (by omega) (by omega)
     rw [hw, if_pos h1, if_pos h2, if_pos h3, if_pos h4, decide_eq_true h1, decide_eq_true h2, decide_eq_true h3, decide_eq_true h4]
     by_cases h5 : x * y ≤ 65536
     ·rw [decide_eq_true h5]
      simp only [Option.bind_some, Bool.and_true, if_true]
      by_cases h6 : (l.length : Int) = x * y
      ·rw [if_pos h6, if_pos h6]; rfl
      ·rw [if_neg h6, if_neg h6]; rfl
     ·rw [decide_eq_false h5]; rfl
    ·rw [if_pos h1, if_pos h2, if_pos h3, if_neg h4, decide_eq_true h1, decide_eq_true h2, decide_eq_true h3, decide_eq_false h4]; rfl
   ·rw [if_pos h1, if_pos h2, if_neg h3, decide_eq_true h1, decide_eq_true h2, decide_eq_false h3]; rfl
  ·rw [if_pos h1, if_neg h2, decide_eq_true h1, decide_eq_false h2]; rfl
 ·rw [if_neg h1, decide_eq_false h1]; rfl
/-- a plane that may be -/
structure Pl where
 w : Nat
 h : Nat
 s : List Nat
def Pl.ok (p : Pl) : Prop := 0 < p.w ∧ 0 < p.h ∧ p.w ≤ 1024 ∧ p.h ≤ 1024 ∧ p.w * p.h ≤ 65536 ∧ p.s.length = p.w * p.h ∧ ∀ i, gt p.s i < 4294967296
theorem Pl.ok.check {p : Pl} (h : p.ok) : plane_Check.f (p.w : Int) (p.h : Int) (ints p.s) = some 0 := by
 obtain ⟨h1, h2, h3, h4, h5, h6, h7⟩ := h
 rw [checkE_f _ _ _ (by rw [ints_length]; omega)]
 unfold checkE
 have h8 : sizeB (p.w : Int) (p.h : Int) = true := by
  unfold sizeB
  simp only [Bool.and_eq_true, decide_eq_true_eq]
  refine ⟨⟨⟨⟨by omega, by omega⟩, by omega⟩, by omega⟩, ?_⟩
  have : ((p.w * p.h : Nat) : Int) ≤ 65536 := by omega
  simpa using this
 rw [if_pos h8, if_pos (by rw [ints_length, h6]; simp)]
 rfl
theorem Rests_f {p : Pl} (h : p.ok) (k : Nat) (hk : p.s.length + 1 ≤ k) : codec_Rests.f (k + 1) (p.w : Int) (p.h : Int) (ints p.s) = some (ints (restsN p.s p.w), 0) := by
 unfold codec_Rests.f
 refine bnd h.check (ifp rfl ?_)
 obtain ⟨h1, h2, h3, h4, h5, h6, h7⟩ := h
 have := Rests_l (xs := p.s) (W := p.w) h7 h1 (by omega) (p.h : Int) (by omega) p.s.length 0 k (by omega) (by omega)
 exact this
def backAt (acc rs : List Nat) (W n : Nat) : Nat := fromKey ((key (guessN acc W n) + gt rs n) % 4294967296)
def planeTo (rs : List Nat) (W : Nat) : Nat → List Nat
 | 0 => []
 | n + 1 => planeTo rs W n ++ [backAt (planeTo rs W n) rs W n]
def planeN (rs : List Nat) (W : Nat) : List Nat := planeTo rs W rs.length
@[simp] theorem planeTo_length (rs : List Nat) (W n : Nat) : (planeTo rs W n).length = n := by
 induction n with
 | zero => rfl
 | succ n ih => simp [planeTo, ih]
theorem gt_append_right {a b : List Nat} {i : Nat} (h : a.length ≤ i) : gt (a ++ b) i = gt b (i - a.length) := by
 unfold gt; rw [List.getD_eq_getElem?_getD, List.getD_eq_getElem?_getD, List.getElem?_append_right h]
theorem gt_replicate (n i : Nat) : gt (List.replicate n 0) i = 0 := by
 unfold gt
 rw [List.getD_eq_getElem?_getD, List.getElem?_replicate]
 split <;> rfl
theorem guessN_congr {a b : List Nat} {W i : Nat} (hW : 0 < W) (h : ∀ j, j < i → gt a j = gt b j) : guessN a W i = guessN b W i := by
 unfold guessN
 by_cases h0 : i = 0
 ·rw [if_pos h0, if_pos h0]
 rw [if_neg h0, if_neg h0, h (i - 1) (by omega), h (i - W) (by omega), h (i - W - 1) (by omega)]
theorem backAt_lt (acc rs : List Nat) (W n : Nat) : backAt acc rs W n < 4294967296 := fromKey_lt (Nat.mod_lt _ (by decide))
theorem gt_lt_of {l : List Nat} {m : Nat} (hm : 0 < m) (h : ∀ x ∈ l, x < m) (i : Nat) : gt l i < m := by
 unfold gt
 rw [List.getD_eq_getElem?_getD]
 by_cases hi : i < l.length
 ·rw [List.getElem?_eq_getElem hi]; exact h _ (List.getElem_mem hi)
 ·rw [List.getElem?_eq_none (by omega)]; exact hm
theorem mem_lt_of {l : List Nat} {m : Nat} (h : ∀ i, gt l i < m) : ∀ x ∈ l, x < m := by
 intro x hx
 obtain ⟨i, hi, rfl⟩ := List.getElem_of_mem hx
 have := h i
 unfold gt at this
 rwa [List.getD_eq_getElem?_getD, List.getElem?_eq_getElem hi] at this
theorem planeTo_lt (rs : List Nat) (W n : Nat) : ∀ i, gt (planeTo rs W n) i < 4294967296 := by
 refine gt_lt_of (by decide) ?_
 induction n with
 | zero => simp [planeTo]
 | succ n ih =>
  intro x hx
  unfold planeTo at hx
  rcases List.mem_append.mp hx with hx | hx
  ·exact ih x hx
  ·rw [List.mem_singleton.mp hx]; exact backAt_lt _ _ _ _
theorem set_pad (a : List Nat) (m v : Nat) : (a ++ List.replicate (m + 1) 0).set a.length v = (a ++ [v]) ++ List.replicate m 0 := by
 rw [List.set_append_right _ _ (Nat.le_refl _), Nat.sub_self, List.replicate_succ, List.set_cons_zero, List.append_assoc]; rfl
theorem padded_lt {a : List Nat} (m : Nat) (h : ∀ i, gt a i < 4294967296) : ∀ i, gt (a ++ List.replicate m 0) i < 4294967296 := by
 intro i
 by_cases hi : i < a.length
 ·rw [gt_append_left hi]; exact h i
 ·rw [gt_append_right (by omega), gt_replicate]; decide
theorem Plane_l {rs : List Nat} {W H : Nat} (hx : ∀ i, gt rs i < 4294967296) (hW : 0 < W) (hWl : W < 4611686018427387904) (hl : rs.length < 35184372088832) : ∀ (d n k : Nat), n + d = rs.length → d + 1 ≤ k →
    codec_Plane.l0 (k + 1) (W : Int) (ints rs) ((ints rs).length : Int) (n : Int) (W : Int) (H : Int) (ints (planeTo rs W n ++ List.replicate d 0)) = some ((W : Int), (H : Int), ints (planeN rs W), 0) := by
 intro d
 induction d with
 | zero =>
  intro n k hn hk
  unfold codec_Plane.l0
  refine ifn (by rw [ints_length]; omega) ?_
  obtain rfl : n = rs.length := by omega
  rw [List.replicate_zero, List.append_nil]
  rfl
 | succ d ih =>
  intro n k hn hk
  obtain ⟨k, rfl⟩ : ∃ k', k = k' + 1 := ⟨k - 1, by omega⟩
  have hlen : (planeTo rs W n ++ List.replicate (d + 1) 0).length = rs.length := by rw [List.length_append, planeTo_length, List.length_replicate]; omega
  unfold codec_Plane.l0
  refine ifp (by rw [ints_length]; omega) (ifp (by omega) (ifp (by rw [ints_length]; omega) ?_))
  refine bnd (guessed_f k (padded_lt _ (planeTo_lt rs W n)) hW hWl (by omega) (by omega)) ?_
  have hg : guessN (planeTo rs W n ++ List.replicate (d + 1) 0) W n = guessN (planeTo rs W n) W n := guessN_congr hW (fun j hj => gt_append_left (by rw [planeTo_length]; exact hj))
  rw [hg]
  refine bnd (key_f (guessN_lt (planeTo_lt rs W n))) ?_
  rw [rd_ints]
  have hm : ((key (guessN (planeTo rs W n) W n) : Nat) : Int) + ((gt rs n : Nat) : Int) = ((key (guessN (planeTo rs W n) W n) + gt rs n : Nat) : Int) := by simp
  have hm2 : (((key (guessN (planeTo rs W n) W n) + gt rs n : Nat) : Int)) % 4294967296 = (((key (guessN (planeTo rs W n) W n) + gt rs n) % 4294967296 : Nat) : Int) := by omega
  rw [hm, hm2]
  refine bnd (fromKey_f (Nat.mod_lt _ (by decide))) (ifp (by rw [ints_length, hlen]; omega) ?_)
  have e : (ints (planeTo rs W n ++ List.replicate (d + 1) 0)).set ((n : Int)).toNat ((fromKey ((key (guessN (planeTo rs W n) W n) + gt rs n) % 4294967296) : Nat) : Int) = ints (planeTo rs W (n + 1) ++ List.replicate d 0) := by
   rw [Int.toNat_natCast, ints_set]
   have := set_pad (planeTo rs W n) d (backAt (planeTo rs W n) rs W n)
   rw [planeTo_length] at this
   exact congrArg ints this
  rw [e, add641 (by omega)]
  exact ih (n + 1) k (by omega) (by omega)
theorem Plane_f {W H : Nat} {rs : List Nat} (h : (Pl.mk W H rs).ok) (k : Nat) (hk : rs.length + 1 ≤ k) : codec_Plane.f (k + 1) (W : Int) (H : Int) (ints rs) = some ((W : Int), (H : Int), ints (planeN rs W), 0) := by
 unfold codec_Plane.f
 have hc := h.check
 obtain ⟨h1, h2, h3, h4, h5, h6, h7⟩ := h
 simp only at h1 h2 h3 h4 h5 h6 h7 hc
 refine bnd hc (ifp rfl (ifp (by omega) (ifp (by rw [ints_length, Int.toNat_natCast]; omega) ?_)))
 have e : List.replicate ((ints rs).length : Int).toNat (0 : Int) = ints (planeTo rs W 0 ++ List.replicate rs.length 0) := by
  rw [ints_length, Int.toNat_natCast]
  exact ints_replicate rs.length 0
 rw [e]
 have := Plane_l (rs := rs) (W := W) (H := H) h7 h1 (by omega) (by omega) rs.length 0 k (by omega) (by omega)
 exact this
end Go.Proofs.Ytbbebhdcfopmmaa.A
end
section
set_option linter.unusedVariables false
set_option linter.unusedSimpArgs false
namespace Go.Proofs.Ytbbebhdcfopmmaa.A
open Go.RowKit Go.Proofs.YtbbebhdcfopmmaaW.PrintWords Go.Proofs.YtbbebhdcfopmmaaW.PrintLast Go.Proofs.YtbbebhdcfopmmaaW.PrintMore Go.Proofs.Ytbbebhdcfopmmaa.PCodecNames

/-- a number's bytes, the highest first -/
def beN : Nat → Nat → List Nat
 | 0, _ => []
 | n + 1, v => v / 2 ^ (8 * n) % 256 :: beN n v
@[simp] theorem beN_length (n v : Nat) : (beN n v).length = n := by
 induction n with
 | zero => rfl
 | succ n ih => simp [beN, ih]
theorem beN_lt (n v : Nat) : ∀ x ∈ beN n v, x < 256 := by
 induction n with
 | zero => simp [beN]
 | succ n ih =>
  intro x hx
  unfold beN at hx
  rcases List.mem_cons.mp hx with rfl | hx
  ·exact Nat.mod_lt _ (by decide)
  ·exact ih x hx
theorem shr64 (v n : Nat) (hn : n ≤ 7) : (shr .i64 (v : Int) (wrap64 (8 * (n : Int)))) % 256 = ((v / 2 ^ (8 * n) % 256 : Nat) : Int) := by
 have e : wrap64 (8 * (n : Int)) = ((8 * n : Nat) : Int) := by unfold wrap64; omega
 unfold shr
 rw [e, Int.toNat_natCast, Nat.min_eq_left (show 8 * n ≤ IntKind.i64.bits by show 8 * n ≤ 64; omega)]
 simp
theorem numbered_l (v : Nat) : ∀ (n k : Nat) (b : List Nat), n ≤ 8 → n + 1 ≤ k → b.length + n < 140737488355328 → codec_numbered.l0 k (ints b) ((n : Int) - 1) (v : Int) = some (ints (b ++ beN n v)) := by
 intro n
 induction n with
 | zero =>
  intro k b hn hk hb
  obtain ⟨k, rfl⟩ : ∃ k', k = k' + 1 := ⟨k - 1, by omega⟩
  unfold codec_numbered.l0
  exact ifn (by omega) (by rw [beN, List.append_nil])
 | succ n ih =>
  intro k b hn hk hb
  obtain ⟨k, rfl⟩ : ∃ k', k = k' + 1 := ⟨k - 1, by omega⟩
  unfold codec_numbered.l0
  have e1 : ((n + 1 : Nat) : Int) - 1 = (n : Int) := by omega
  rw [e1]
  refine ifp (by omega) (ifp (by rw [w64 (by omega) (by omega)]; omega) (ifp (by rw [ints_length]; omega) ?_))
  rw [shr64 v n (by omega), w64 (n := (n : Int) - 1) (by omega) (by omega)]
  have e2 : ints b ++ [((v / 2 ^ (8 * n) % 256 : Nat) : Int)] = ints (b ++ [v / 2 ^ (8 * n) % 256]) := by rw [ints_append]; rfl
  rw [e2, ih k _ (by omega) (by omega) (by rw [List.length_append, List.length_singleton]; omega), List.append_assoc]
  rfl
theorem numbered_f (b : List Nat) (n v k : Nat) (hn : n ≤ 8) (hk : n + 1 ≤ k) (hb : b.length < 70368744177664) : codec_numbered.f k (ints b) (n : Int) (v : Int) = some (ints (b ++ beN n v)) := by
 unfold codec_numbered.f
 rw [w64 (n := (n : Int) - 1) (by omega) (by omega)]
 exact numbered_l v n k b hn hk (by omega)
/-- the number of bytes, the highest first -/
def numL (n : Nat) (l : List Nat) : Nat := l.foldl (fun n c => n * 256 + c) n
theorem wraps_i64 (n : Int) (h0 : 0 ≤ n) (h1 : n < 2 ^ 63) : IntKind.i64.wrap n = n := by simp only [IntKind.wrap_i64]; omega
theorem or256 {a c : Nat} (ha : a < 36028797018963968) (hc : c < 256) : Go.bits .or .i64 ((a : Int) * 256) (c : Int) = ((a * 256 + c : Nat) : Int) := by
 have h := bits_join .i64 63 (by decide) wraps_i64 8 ((a : Int) * 256) (c : Int) (by omega) (by omega) (by omega) (by omega) (by omega) (by omega)
 rw [h]; omega
theorem numL_cons (n c : Nat) (l : List Nat) : numL n (c :: l) = numL (n * 256 + c) l := rfl
theorem number_l {l : List Nat} (hl : l.length ≤ 6) (h8 : ∀ i, gt l i < 256) : ∀ (d i k n : Nat), i + d = l.length → d + 1 ≤ k → n < 256 ^ i →
    codec_number.l0 k (n : Int) (ints l) ((ints l).length : Int) (i : Int) = some ((numL n (l.drop i) : Nat) : Int) := by
 intro d
 induction d with
 | zero =>
  intro i k n hi hk hn
  obtain ⟨k, rfl⟩ : ∃ k', k = k' + 1 := ⟨k - 1, by omega⟩
  unfold codec_number.l0
  refine ifn (by rw [ints_length]; omega) ?_
  rw [List.drop_of_length_le (by omega)]
  rfl
 | succ d ih =>
  intro i k n hi hk hn
  obtain ⟨k, rfl⟩ : ∃ k', k = k' + 1 := ⟨k - 1, by omega⟩
  unfold codec_number.l0
  refine ifp (by rw [ints_length]; omega) (ifp (by omega) (ifp (by rw [ints_length]; omega) ?_))
  have hn2 : n < 1099511627776 := by
   have : 256 ^ i ≤ 256 ^ 5 := Nat.pow_le_pow_right (by decide) (by omega)
   omega
  have hc := h8 i
  rw [rd_ints, w64 (n := (n : Int) * 256) (by omega) (by omega), w64n (n := gt l i) (by omega), or256 (by omega) hc, add641 (by omega)]
  have hd : l.drop i = gt l i :: l.drop (i + 1) := by
   rw [List.drop_eq_getElem_cons (show i < l.length by omega)]
   unfold gt
   rw [List.getD_eq_getElem?_getD, List.getElem?_eq_getElem (show i < l.length by omega)]; rfl
  rw [hd, numL_cons]
  refine ih (i + 1) k _ (by omega) (by omega) ?_
  rw [Nat.pow_succ]
  omega
theorem number_f (l : List Nat) (k : Nat) (hl : l.length ≤ 6) (h8 : ∀ i, gt l i < 256) (hk : 8 ≤ k) : codec_number.f k (ints l) = some ((numL 0 l : Nat) : Int) := by
 unfold codec_number.f
 have := number_l hl h8 l.length 0 k 0 (by omega) (by omega) (by decide)
 rwa [List.drop_zero] at this

def acrossN (W S : Nat) : Nat := (W + S - 1) / S
theorem across_f (sp pl H : Int) (W S : Nat) (hS : 0 < S) (hW : W < 1048576) (hS2 : S < 1048576) : codec_grid_across.f sp pl (W : Int) H (S : Int) = some ((acrossN W S : Nat) : Int) := by
 unfold codec_grid_across.f acrossN
 rw [if_neg (by omega), add64 (by omega), show ((W + S : Nat) : Int) = ((1 + (W + S - 1) : Nat) : Int) by omega, sub641 (c := W + S - 1) rfl (by omega), tdivN, w64n]
 exact Nat.lt_of_le_of_lt (Nat.div_le_self _ _) (by omega)
theorem acrossN_le (W S : Nat) : acrossN W S ≤ W := by
 unfold acrossN
 by_cases hS : S = 0
 ·subst hS; simp
 ·by_cases hW : W = 0
  ·subst hW
   rw [Nat.div_eq_of_lt (by omega)]
   exact Nat.le_refl 0
  ·refine Nat.div_le_of_le_mul ?_
   have h1 : 1 ≤ S := by omega
   have h2 : 1 ≤ W := by omega
   obtain ⟨a, rfl⟩ : ∃ a, S = a + 1 := ⟨S - 1, by omega⟩
   obtain ⟨b, rfl⟩ : ∃ b, W = b + 1 := ⟨W - 1, by omega⟩
   have : (a + 1) * (b + 1) = a * b + a + b + 1 := by simp [Nat.add_mul, Nat.mul_add]; omega
   have h3 : 0 ≤ a * b := Nat.zero_le _
   omega
theorem acrossN_pos {W S : Nat} (hW : 0 < W) (hS : 0 < S) : 0 < acrossN W S := Nat.div_pos (by omega) hS
def tilesN (W H S : Nat) : Nat := acrossN W S * acrossN H S
theorem tiles_f (sp pl : Int) (W H S : Nat) (hS : 0 < S) (hW : W < 1048576) (hH : H < 1048576) (hS2 : S < 1048576) : codec_grid_tiles.f sp pl (W : Int) (H : Int) (S : Int) = some ((tilesN W H S : Nat) : Int) := by
 unfold codec_grid_tiles.f
 refine bnd (across_f sp pl H W S hS hW hS2) (ifn (by omega) ?_)
 rw [add64 (by omega), show ((H + S : Nat) : Int) = ((1 + (H + S - 1) : Nat) : Int) by omega, sub641 (c := H + S - 1) rfl (by omega), tdivN, w64n (Nat.lt_of_le_of_lt (Nat.div_le_self _ _) (by omega)), ← Int.natCast_mul, w64n]
 ·rfl
 ·have h1 := acrossN_le W S
  have h2 : (H + S - 1) / S ≤ H := acrossN_le H S
  have h3 := Nat.mul_le_mul h1 h2
  have h4 := Nat.mul_le_mul (Nat.le_of_lt hW) (Nat.le_of_lt hH)
  exact Nat.lt_of_le_of_lt (Nat.le_trans h3 h4) (by decide)
def tX (W S t : Nat) : Nat := t % acrossN W S * S
def tY (W S t : Nat) : Nat := t / acrossN W S * S
theorem mn_min (a b : Nat) : mn (a : Int) (b : Int) = ((min a b : Nat) : Int) := by
 unfold mn; split <;> omega
theorem rect_f (sp pl : Int) (W H S t : Nat) (hS : 0 < S) (hW0 : 0 < W) (hW : W < 1048576) (hH : H < 1048576) (hS2 : S < 1048576) (ht : t < 1099511627776) :
    codec_grid_rect.f sp pl (W : Int) (H : Int) (S : Int) (t : Int) = some (((tX W S t : Nat) : Int), ((tY W S t : Nat) : Int), ((min (tX W S t + S) W : Nat) : Int), ((min (tY W S t + S) H : Nat) : Int)) := by
 have ha := acrossN_pos hW0 hS
 have hal := acrossN_le W S
 unfold codec_grid_rect.f
 refine bnd (across_f sp pl H W S hS hW hS2) (ifn (by omega) (bnd (across_f sp pl H W S hS hW hS2) (ifn (by omega) ?_)))
 have hx : tX W S t < 1099511627776 := by
  unfold tX
  have h1 : t % acrossN W S ≤ 1048576 := Nat.le_of_lt (Nat.lt_of_lt_of_le (Nat.mod_lt _ ha) (by omega))
  exact Nat.lt_of_le_of_lt (Nat.mul_le_mul h1 (Nat.le_refl S)) (by omega)
 have hy : tY W S t < 1152921504606846976 := by
  unfold tY
  have h1 : t / acrossN W S ≤ t := Nat.div_le_self _ _
  have := Nat.mul_le_mul h1 (Nat.le_of_lt hS2)
  omega
 have hq : t / acrossN W S < 9223372036854775808 := Nat.lt_of_le_of_lt (Nat.div_le_self _ _) (by omega)
 rw [tmodN, tdivN, w64n hq, ← Int.natCast_mul, ← Int.natCast_mul]
 rw [show t % acrossN W S * S = tX W S t from rfl, show t / acrossN W S * S = tY W S t from rfl, w64n (n := tX W S t) (by omega), w64n (n := tY W S t) (by omega), add64 (by omega), add64 (by omega), mn_min, mn_min]

def firstErr : List S31 → Nat
 | [] => 0
 | p :: t => if checkE p.f0 p.f1 p.f2.length = 0 then firstErr t else checkE p.f0 p.f1 p.f2.length
def sameSize (a : S31) : List S31 → Bool
 | [] => true
 | p :: t => decide (p.f0 = a.f0) && decide (p.f1 = a.f1) && sameSize a t
def spaceE (sp : Int) (n : Nat) : Nat := if sp < 0 ∨ 4 < sp ∨ (sp ≠ 0 ∧ n < 3) then 81 else 0
def picE (sp : Int) (l : List S31) : Nat := if l.length = 0 ∨ 4 < l.length then 80 else if firstErr l ≠ 0 then firstErr l else if sameSize (rd_T31 l 0) l = true then spaceE sp l.length else 80
theorem spaceE_f (sp : Int) (n : Nat) : picture_spaceOf.f sp (n : Int) = some ((spaceE sp n : Nat) : Int) := by
 unfold picture_spaceOf.f spaceE
 by_cases h1 : sp < 0
 ·rw [if_pos h1, if_pos (.inl h1)]; rfl
 by_cases h2 : 4 < sp
 ·rw [if_neg h1, if_pos h2, if_pos (.inr (.inl h2))]; rfl
 by_cases h3 : sp = 0
 ·rw [if_neg h1, if_neg h2, if_pos h3, if_neg (by omega)]; rfl
 by_cases h4 : n < 3
 ·rw [if_neg h1, if_neg h2, if_neg h3, if_pos (by omega), if_pos (by omega)]; rfl
 ·rw [if_neg h1, if_neg h2, if_neg h3, if_neg (by omega), if_neg (by omega)]; rfl
theorem rdT_drop {l : List S31} {i : Nat} (hi : i < l.length) : l.drop i = rd_T31 l (i : Int) :: l.drop (i + 1) := by
 rw [List.drop_eq_getElem_cons hi]
 unfold rd_T31
 rw [Int.toNat_natCast, List.getD_eq_getElem?_getD, List.getElem?_eq_getElem hi]; rfl
theorem picture_l1 {l : List S31} (sp : Int) (h0 : 0 < l.length) (hl : l.length < 4611686018427387904) : ∀ (d i k : Nat), i + d = l.length → d + 1 ≤ k →
    picture_Check.l1 k l (l.length : Int) (i : Int) sp l = some (((if sameSize (rd_T31 l 0) (l.drop i) = true then spaceE sp l.length else 80 : Nat)) : Int) := by
 intro d
 induction d with
 | zero =>
  intro i k hi hk
  obtain ⟨k, rfl⟩ : ∃ k', k = k' + 1 := ⟨k - 1, by omega⟩
  unfold picture_Check.l1
  refine ifn (by omega) (bnd (spaceE_f sp l.length) ?_)
  rw [List.drop_of_length_le (by omega)]
  rfl
 | succ d ih =>
  intro i k hi hk
  obtain ⟨k, rfl⟩ : ∃ k', k = k' + 1 := ⟨k - 1, by omega⟩
  unfold picture_Check.l1
  refine ifp (by omega) (ifp (by omega) (ifp (by omega) (ifp (by omega) ?_)))
  rw [rdT_drop (show i < l.length by omega)]
  unfold sameSize
  by_cases h1 : (rd_T31 l (i : Int)).f0 = (rd_T31 l 0).f0
  ·refine ifp h1 ?_
   by_cases h2 : (rd_T31 l (i : Int)).f1 = (rd_T31 l 0).f1
   ·refine ifp h2 ?_
    rw [add641 (by omega), decide_eq_true h1, decide_eq_true h2]
    exact ih (i + 1) k (by omega) (by omega)
   ·refine ifn h2 ?_
    rw [decide_eq_false h2, Bool.and_false, Bool.false_and]; rfl
  ·refine ifn h1 ?_
   rw [decide_eq_false h1, Bool.false_and, Bool.false_and]; rfl
theorem picture_l0 {l : List S31} (sp : Int) (h0 : 0 < l.length) (hl : l.length < 4611686018427387904) (hc : ∀ i : Nat, i < l.length → (rd_T31 l (i : Int)).f2.length < 4611686018427387904) : ∀ (d i k : Nat), i + d = l.length → d + l.length + 3 ≤ k →
    picture_Check.l0 k l (l.length : Int) (i : Int) sp l = some (((if firstErr (l.drop i) ≠ 0 then firstErr (l.drop i) else if sameSize (rd_T31 l 0) l = true then spaceE sp l.length else 80 : Nat)) : Int) := by
 intro d
 induction d with
 | zero =>
  intro i k hi hk
  obtain ⟨k, rfl⟩ : ∃ k', k = k' + 1 := ⟨k - 1, by omega⟩
  unfold picture_Check.l0
  refine ifn (by omega) ?_
  rw [List.drop_of_length_le (show l.length ≤ i by omega), show firstErr [] = 0 from rfl, if_neg (fun h => h rfl)]
  have := picture_l1 sp h0 hl l.length 0 k (by omega) (by omega)
  rw [List.drop_zero] at this
  exact this
 | succ d ih =>
  intro i k hi hk
  obtain ⟨k, rfl⟩ : ∃ k', k = k' + 1 := ⟨k - 1, by omega⟩
  unfold picture_Check.l0
  refine ifp (by omega) (ifp (by omega) (ifp (by omega) (bnd (checkE_f _ _ _ (hc i (by omega))) ?_)))
  rw [rdT_drop (show i < l.length by omega)]
  unfold firstErr
  by_cases h1 : checkE (rd_T31 l (i : Int)).f0 (rd_T31 l (i : Int)).f1 (rd_T31 l (i : Int)).f2.length = 0
  ·refine ifp (by rw [h1]; rfl) ?_
   rw [if_pos h1, add641 (by omega)]
   exact ih (i + 1) k (by omega) (by omega)
  ·refine ifn (by omega) ?_
   rw [if_neg h1, if_pos h1]
theorem picture_f (l : List S31) (sp : Int) (k : Nat) (hk : 2 * l.length + 4 ≤ k) (hl : l.length < 4611686018427387904) (hc : ∀ i : Nat, i < l.length → (rd_T31 l (i : Int)).f2.length < 4611686018427387904) : picture_Check.f k sp l = some ((picE sp l : Nat) : Int) := by
 obtain ⟨k, rfl⟩ : ∃ k', k = k' + 1 := ⟨k - 1, by omega⟩
 unfold picture_Check.f picE
 by_cases h0 : l.length = 0
 ·refine ifp (by omega) ?_
  rw [if_pos (.inl h0)]
  unfold picture_Check.j0
  exact ifp rfl rfl
 refine ifn (by omega) ?_
 unfold picture_Check.j0
 by_cases h4 : 4 < l.length
 ·rw [if_pos (.inr h4)]
  exact ifp (by exact decide_eq_true (by omega)) rfl
 ·rw [if_neg (by omega)]
  refine ifn (by rw [decide_eq_false (by omega)]; decide) ?_
  have := picture_l0 sp (by omega) hl hc l.length 0 k (by omega) (by omega)
  rw [List.drop_zero] at this
  exact this
end Go.Proofs.Ytbbebhdcfopmmaa.A
end
section
set_option linter.unusedVariables false
set_option linter.unusedSimpArgs false
namespace Go.Proofs.Ytbbebhdcfopmmaa.A
open Go.RowKit Go.Proofs.YtbbebhdcfopmmaaW.PrintWords Go.Proofs.YtbbebhdcfopmmaaW.PrintLast Go.Proofs.YtbbebhdcfopmmaaW.PrintMore Go.Proofs.Ytbbebhdcfopmmaa.PCodecNames

def rowN (n w : Nat) : Nat := n / w
def colN (n w : Nat) : Nat := n % w
/-- place n of a plane over which another one is laid -/
def pasteVal (ps qs : List Nat) (pw qw qh : Nat) (x y : Int) (n : Nat) : Nat :=
 if x ≤ ((colN n pw : Nat) : Int) ∧ ((colN n pw : Nat) : Int) < x + qw ∧ y ≤ ((rowN n pw : Nat) : Int) ∧ ((rowN n pw : Nat) : Int) < y + qh then gt qs ((((rowN n pw : Nat) : Int) - y).toNat * qw + (((colN n pw : Nat) : Int) - x).toNat) else gt ps n
def pasteN (ps qs : List Nat) (pw qw qh : Nat) (x y : Int) : List Nat := (List.range ps.length).map (pasteVal ps qs pw qw qh x y)
@[simp] theorem pasteN_length (ps qs : List Nat) (pw qw qh : Nat) (x y : Int) : (pasteN ps qs pw qw qh x y).length = ps.length := by simp [pasteN]
theorem gt_pasteN {ps qs : List Nat} {pw qw qh : Nat} {x y : Int} {n : Nat} (h : n < ps.length) : gt (pasteN ps qs pw qw qh x y) n = pasteVal ps qs pw qw qh x y n := by
 unfold gt pasteN
 rw [List.getD_eq_getElem?_getD, List.getElem?_map, List.getElem?_range h, Option.map_some, Option.getD_some]
section
variable {ps qs : List Nat} {pw ph qw qh : Nat} {x y : Int}
def PartI (ps qs : List Nat) (pw qw qh : Nat) (x y : Int) (L : List Nat) (J I : Int) : Prop :=
 L.length = ps.length ∧ ∀ n, n < ps.length → gt L n = if ((rowN n pw : Nat) : Int) < J ∨ (((rowN n pw : Nat) : Int) = J ∧ ((colN n pw : Nat) : Int) < I) then pasteVal ps qs pw qw qh x y n else gt ps n
def PartJ (ps qs : List Nat) (pw qw qh : Nat) (x y : Int) (L : List Nat) (J : Int) : Prop :=
 L.length = ps.length ∧ ∀ n, n < ps.length → gt L n = if ((rowN n pw : Nat) : Int) < J then pasteVal ps qs pw qw qh x y n else gt ps n
theorem part_begin {J : Int} (hJ : J ≤ y ∨ J ≤ 0) : PartJ ps qs pw qw qh x y ps J := by
 refine ⟨rfl, fun n hn => ?_⟩
 split
 ·rename_i h
  unfold pasteVal
  rw [if_neg (by omega)]
 ·rfl
theorem part_in {L : List Nat} {J I : Int} (h : PartJ ps qs pw qw qh x y L J) (hI : I ≤ x ∨ I ≤ 0) : PartI ps qs pw qw qh x y L J I := by
 refine ⟨h.1, fun n hn => ?_⟩
 rw [h.2 n hn]
 by_cases h1 : ((rowN n pw : Nat) : Int) < J
 ·rw [if_pos h1, if_pos (.inl h1)]
 ·rw [if_neg h1]
  split
  ·unfold pasteVal
   rw [if_neg (by omega)]
  ·rfl
theorem part_out {L : List Nat} {J I : Int} (h : PartI ps qs pw qw qh x y L J I) (hp : 0 < pw) (hI : x + qw ≤ I ∨ (pw : Int) ≤ I) : PartJ ps qs pw qw qh x y L (J + 1) := by
 refine ⟨h.1, fun n hn => ?_⟩
 rw [h.2 n hn]
 have hm : colN n pw < pw := Nat.mod_lt n hp
 by_cases h1 : ((rowN n pw : Nat) : Int) < J
 ·rw [if_pos (.inl h1), if_pos (by omega)]
 ·by_cases h2 : ((rowN n pw : Nat) : Int) = J
  ·rw [if_pos (show ((rowN n pw : Nat) : Int) < J + 1 by omega)]
   by_cases h3 : ((colN n pw : Nat) : Int) < I
   ·rw [if_pos (.inr ⟨h2, h3⟩)]
   ·rw [if_neg (by omega)]
    unfold pasteVal
    rw [if_neg (by omega)]
  ·rw [if_neg (by omega), if_neg (by omega)]
theorem part_end {L : List Nat} {J : Int} (h : PartJ ps qs pw qw qh x y L J) (hp : 0 < pw) (hl : ps.length = pw * ph) (hJ : y + qh ≤ J ∨ (ph : Int) ≤ J) : L = pasteN ps qs pw qw qh x y := by
 refine eq_of_gt (by rw [pasteN_length]; exact h.1) (fun n hn => ?_)
 rw [h.1] at hn
 rw [gt_pasteN hn, h.2 n hn]
 have hd : rowN n pw < ph := by
  rw [hl] at hn
  exact Nat.div_lt_of_lt_mul hn
 split
 ·rfl
 ·unfold pasteVal
  rw [if_neg (by omega)]
theorem part_step {L : List Nat} {J I : Nat} (h : PartI ps qs pw qw qh x y L (J : Int) (I : Int)) (hI : I < pw) (hl : J * pw + I < ps.length) (hx : x ≤ I) (hx2 : (I : Int) < x + qw) (hy : y ≤ J) (hy2 : (J : Int) < y + qh) :
    PartI ps qs pw qw qh x y (L.set (J * pw + I) (gt qs (((J : Int) - y).toNat * qw + ((I : Int) - x).toNat))) (J : Int) ((I : Int) + 1) := by
 have hdiv : rowN (J * pw + I) pw = J := by
  unfold rowN
  rw [Nat.add_comm, Nat.add_mul_div_right _ _ (by omega : 0 < pw), Nat.div_eq_of_lt hI, Nat.zero_add]
 have hmod : colN (J * pw + I) pw = I := by
  unfold colN
  rw [Nat.add_comm, Nat.add_mul_mod_self_right, Nat.mod_eq_of_lt hI]
 refine ⟨by rw [List.length_set]; exact h.1, fun n hn => ?_⟩
 rw [gt_set_eq _ _ _ _ (by rw [h.1]; exact hl)]
 by_cases hne : n = J * pw + I
 ·rw [if_pos hne, hne]
  rw [if_pos (by rw [hdiv, hmod]; exact .inr ⟨rfl, by omega⟩)]
  unfold pasteVal
  rw [hdiv, hmod, if_pos ⟨hx, hx2, hy, hy2⟩]
 ·rw [if_neg hne, h.2 n hn]
  have hn2 : pw * rowN n pw + colN n pw = n := Nat.div_add_mod n pw
  by_cases h1 : rowN n pw = J
  ·have h2 : colN n pw ≠ I := by
    intro h2
    rw [h1, h2, Nat.mul_comm] at hn2
    exact hne hn2.symm
   by_cases h3 : colN n pw < I
   ·rw [if_pos (.inr ⟨by omega, by omega⟩), if_pos (.inr ⟨by omega, by omega⟩)]
   ·rw [if_neg (by omega), if_neg (by omega)]
  ·by_cases h3 : rowN n pw < J
   ·rw [if_pos (.inl (by omega)), if_pos (.inl (by omega))]
   ·rw [if_neg (by omega), if_neg (by omega)]
end
theorem prod_small {a b : Nat} (ha : a ≤ 1024) (hb : b ≤ 1024) : a * b ≤ 1048576 := Nat.le_trans (Nat.mul_le_mul ha hb) (by decide)
def fl (qw e : Nat) : Nat := e * (qw + 4) + 3
theorem fl_succ (qw e : Nat) : fl qw (e + 1) = fl qw e + qw + 4 := by unfold fl; rw [Nat.succ_mul]; omega
theorem fl_ge (qw e : Nat) : 3 ≤ fl qw e := by unfold fl; omega
theorem paste_at {j i qw pw J I : Nat} {x y : Int} (hj : j ≤ 1024) (hi : i ≤ 1024) (hqw : qw ≤ 1024) (hpw : pw ≤ 1024) (hJm : J ≤ 1024) (hIm : I ≤ 1024) (hJ : y + (j : Int) = J) (hI : x + (i : Int) = I) (hx : -1048576 ≤ x) (hx2 : x ≤ 1048576) :
    wrap64 (wrap64 ((j : Int) * (qw : Int)) + (i : Int)) = ((j * qw + i : Nat) : Int) ∧ wrap64 (wrap64 (wrap64 (wrap64 (y + (j : Int)) * (pw : Int)) + x) + (i : Int)) = ((J * pw + I : Nat) : Int) := by
 have hqm : j * qw ≤ 1048576 := prod_small hj hqw
 have hpm : J * pw ≤ 1048576 := prod_small hJm hpw
 refine ⟨?_, ?_⟩
 ·rw [← Int.natCast_mul, w64n (by omega), add64 (by omega)]
 ·rw [hJ, w64n (n := J) (by omega), ← Int.natCast_mul, w64n (n := J * pw) (by omega), w64 (n := ((J * pw : Nat) : Int) + x) (by omega) (by omega), w64 (by omega) (by omega)]
  omega
theorem idx_lt {j i q h n : Nat} (hn : n = q * h) (hj : j < h) (hi : i < q) : j * q + i < n := by
 have := Nat.mul_le_mul (show j + 1 ≤ h from hj) (Nat.le_refl q)
 rw [Nat.succ_mul] at this
 rw [hn, Nat.mul_comm q h]
 omega
theorem paste_in {ps qs : List Nat} {pw ph qw qh e j J : Nat} {x y : Int} (hpw : 0 < pw) (hpw2 : pw ≤ 1024) (hph : ph ≤ 1024) (hqw : qw ≤ 1024) (hqh : qh ≤ 1024) (hps : ps.length = pw * ph) (hqs : qs.length = qw * qh) (hx : -1048576 ≤ x) (hx2 : x ≤ 1048576) (hJ : y + (j : Int) = J) (hjq : j < qh) (hJp : J < ph)
    (ih : ∀ (k : Nat) (L : List Nat), fl qw e ≤ k → PartJ ps qs pw qw qh x y L ((J : Int) + 1) → codec_paste.l0 k x y ((j + 1 : Nat) : Int) (pw : Int) (ph : Int) (ints L) (qw : Int) (qh : Int) (ints qs) = some (ints (pasteN ps qs pw qw qh x y))) :
    ∀ (d i k : Nat) (L : List Nat), qw ≤ i + d → fl qw e + d + 1 ≤ k → 0 ≤ x + i → i ≤ 4194304 → PartI ps qs pw qw qh x y L (J : Int) (x + i) →
     codec_paste.l1 k x y (j : Int) (i : Int) (pw : Int) (ph : Int) (ints L) (qw : Int) (qh : Int) (ints qs) = some (ints (pasteN ps qs pw qw qh x y)) := by
 intro d
 induction d with
 | zero =>
  intro i k L hi hk hxi him hP
  obtain ⟨k, rfl⟩ : ∃ k', k = k' + 1 := ⟨k - 1, by omega⟩
  unfold codec_paste.l1
  refine ifn (by omega) ?_
  rw [add641 (a := j) (by omega)]
  exact ih k L (by omega) (part_out hP hpw (.inl (by omega)))
 | succ d ihd =>
  intro i k L hi hk hxi him hP
  obtain ⟨k, rfl⟩ : ∃ k', k = k' + 1 := ⟨k - 1, by omega⟩
  unfold codec_paste.l1
  by_cases h3 : (i : Int) < qw
  ·refine ifp h3 ?_
   rw [w64 (n := x + (i : Int)) (by omega) (by omega)]
   by_cases h4 : x + (i : Int) < pw
   ·refine ifp h4 ?_
    obtain ⟨I, hI⟩ : ∃ I : Nat, x + (i : Int) = I := ⟨(x + (i : Int)).toNat, by omega⟩
    rw [hI] at hP h4
    have hiq : i < qw := by omega
    have hIp : I < pw := by omega
    have hq1 : j * qw + i < qs.length := idx_lt hqs hjq hiq
    have hp1 : J * pw + I < ps.length := idx_lt hps hJp hIp
    have hst := part_step hP hIp hp1 (by omega) (by omega) (by omega) (by omega)
    have e1 : ((J : Int) - y).toNat = j := by omega
    have e2 : ((I : Int) - x).toNat = i := by omega
    rw [e1, e2] at hst
    have hLl : (ints L).length = ps.length := by rw [ints_length]; exact hP.1
    have hql : (ints qs).length = qs.length := ints_length qs
    obtain ⟨eq1, ep1⟩ := paste_at (j := j) (i := i) (qw := qw) (pw := pw) (J := J) (I := I) (x := x) (y := y) (by omega) (by omega) hqw hpw2 (by omega) (by omega) hJ hI hx hx2
    rw [eq1, ep1]
    clear eq1 ep1 hps hqs hP
    generalize j * qw + i = n1 at *
    generalize J * pw + I = n2 at *
    refine ifp (by omega) (ifp (by omega) (ifp (by omega) (ifp (by omega) ?_)))
    rw [rd_ints, Int.toNat_natCast, ints_set, add641 (by omega)]
    exact ihd (i + 1) k _ (by omega) (by omega) (by omega) (by omega) (by rw [show x + ((i + 1 : Nat) : Int) = (I : Int) + 1 by omega]; exact hst)
   ·refine ifn h4 ?_
    rw [add641 (a := j) (by omega)]
    exact ih k L (by omega) (part_out hP hpw (.inr (by omega)))
  ·refine ifn h3 ?_
   rw [add641 (a := j) (by omega)]
   exact ih k L (by omega) (part_out hP hpw (.inl (by omega)))
theorem mx_neg (x : Int) (hx : -1048576 ≤ x) (hx2 : x ≤ 1048576) : ∃ i0 : Nat, mx 0 (wrap64 (-x)) = (i0 : Int) ∧ 0 ≤ x + i0 ∧ (x + i0 ≤ x ∨ x + i0 ≤ 0) ∧ i0 ≤ 1048576 := by
 rw [w64 (n := -x) (by omega) (by omega)]
 unfold mx
 split
 ·exact ⟨(-x).toNat, by omega, by omega, by omega, by omega⟩
 ·exact ⟨0, rfl, by omega, by omega, by omega⟩
theorem paste_l {ps qs : List Nat} {pw ph qw qh : Nat} {x y : Int} (hpw : 0 < pw) (hpw2 : pw ≤ 1024) (hph : ph ≤ 1024) (hqw : qw ≤ 1024) (hqh : qh ≤ 1024) (hps : ps.length = pw * ph) (hqs : qs.length = qw * qh) (hx : -1048576 ≤ x) (hx2 : x ≤ 1048576) (hy : -1048576 ≤ y) (hy2 : y ≤ 1048576) :
    ∀ (e j k : Nat) (L : List Nat), (qh ≤ j + e) → fl qw e ≤ k → 0 ≤ y + j → j ≤ 4194304 → PartJ ps qs pw qw qh x y L (y + j) →
     codec_paste.l0 k x y (j : Int) (pw : Int) (ph : Int) (ints L) (qw : Int) (qh : Int) (ints qs) = some (ints (pasteN ps qs pw qw qh x y)) := by
 intro e
 induction e with
 | zero =>
  intro j k L hj hk hyj hjm hP
  have hf := fl_ge qw 0
  obtain ⟨k, rfl⟩ : ∃ k', k = k' + 1 + 1 := ⟨k - 2, by omega⟩
  unfold codec_paste.l0
  refine ifn (by omega) ?_
  unfold codec_paste.j1
  refine ifn (by decide) ?_
  rw [part_end hP hpw hps (.inl (by omega))]
 | succ e ih =>
  intro j k L hj hk hyj hjm hP
  rw [fl_succ] at hk
  obtain ⟨k, rfl⟩ : ∃ k', k = k' + 1 + 1 := ⟨k - 2, by omega⟩
  unfold codec_paste.l0
  by_cases h1 : (j : Int) < qh
  ·refine ifp h1 ?_
   rw [w64 (n := y + (j : Int)) (by omega) (by omega)]
   unfold codec_paste.j1
   by_cases h2 : y + (j : Int) < ph
   ·refine ifp (decide_eq_true h2) ?_
    obtain ⟨J, hJ⟩ : ∃ J : Nat, y + (j : Int) = J := ⟨(y + (j : Int)).toNat, by omega⟩
    obtain ⟨i0, hi0, hi1, hi2, hi3⟩ := mx_neg x hx hx2
    rw [hi0]
    rw [hJ] at hP h2
    refine paste_in (e := e) hpw hpw2 hph hqw hqh hps hqs hx hx2 hJ (by omega) (by omega) ?_ qw i0 k L (by omega) (by omega) hi1 (by omega) (part_in hP hi2)
    intro k L hk hP
    exact ih (j + 1) k L (by omega) hk (by omega) (by omega) (by rw [show y + ((j + 1 : Nat) : Int) = (J : Int) + 1 by omega]; exact hP)
   ·refine ifn (by rw [decide_eq_false h2]; decide) ?_
    rw [part_end hP hpw hps (.inr (by omega))]
  ·refine ifn h1 ?_
   unfold codec_paste.j1
   refine ifn (by decide) ?_
   rw [part_end hP hpw hps (.inl (by omega))]
theorem paste_f {ps qs : List Nat} {pw ph qw qh : Nat} {x y : Int} (k : Nat) (hk : fl qw qh ≤ k) (hpw : 0 < pw) (hpw2 : pw ≤ 1024) (hph : ph ≤ 1024) (hqw : qw ≤ 1024) (hqh : qh ≤ 1024) (hps : ps.length = pw * ph) (hqs : qs.length = qw * qh) (hx : -1048576 ≤ x) (hx2 : x ≤ 1048576) (hy : -1048576 ≤ y) (hy2 : y ≤ 1048576) :
    codec_paste.f k (pw : Int) (ph : Int) (ints ps) (qw : Int) (qh : Int) (ints qs) x y = some (ints (pasteN ps qs pw qw qh x y)) := by
 unfold codec_paste.f
 obtain ⟨j0, hj0, hj1, hj2, hj3⟩ := mx_neg y hy hy2
 rw [hj0]
 exact paste_l hpw hpw2 hph hqw hqh hps hqs hx hx2 hy hy2 qh j0 k ps (by omega) hk hj1 (by omega) (part_begin hj2)
end Go.Proofs.Ytbbebhdcfopmmaa.A
end
section
set_option linter.unusedVariables false
set_option linter.unusedSimpArgs false
namespace Go.Proofs.Ytbbebhdcfopmmaa.A
open Go.RowKit Go.Proofs.YtbbebhdcfopmmaaW.PrintWords Go.Proofs.YtbbebhdcfopmmaaW.PrintLast Go.Proofs.YtbbebhdcfopmmaaW.PrintMore Go.Proofs.Ytbbebhdcfopmmaa.PCodecNames

section
variable {P : Program} {ops : Array Oper} {Q : Exit → Act → World → Prop}
/-- A call of a function value, by its contract. -/
theorem goesV_ {oi : Oper} {N : Option Tmp} {a : Act} {w : World} {K : Act → World → Prop} {f : FuncId} {fn : Func} {os : Array Operand} {ts : Array TypeId} {tm : Operand} {caps : Array Value} (hf : P.funcs[f]? = some fn) (hname : (fn.name == "runtime.NumGoroutine") = false) (hb : fn.body.isSome = true) (args : Array Value)
    (hw : Region.wanted oi (yielded ops a.tmps) = true) (hN : oi.dst = N) (hop : oi.op = .call { callee := .value tm, args := os, argTypes := ts }) (htm : a.eval tm = .func (.func f) #[] caps) (hargs : os.map a.eval = args)
    (h : Calls P f (args ++ caps) w fun e w' => ∃ v, e = .returned v ∧ K (a.put N v) w') : if Region.wanted oi (yielded ops a.tmps) = true then Oper.wp P oi a w K Q else K (a.put N undef) w := by
 refine call_ f (args ++ caps) hw hN ?_ h
 have he := enters_ hf hname hb (args ++ caps) w
 unfold execOp
 simp [hop, resolve, Deferred.ofValue, invoke, htm, hargs, he]
theorem make0_step {o : Oper} {N : Option Tmp} {a : Act} {W : World} {K : Act → World → Prop} (hw : Region.wanted o (yielded ops a.tmps) = true) (hN : o.dst = N) (t e : TypeId) (x y : Operand) (ho : o.op = .makeSlice t x y) (n : Nat) (hx : a.eval x = .int .i64 0) (hy : a.eval y = .int .i64 (n : Int))
    (ht : P.underlying t = some (.slice e)) (z : Value) (bytes : Nat) (hinfo : (P.info? e).map (fun i => (i.zero, i.size, i.bytes)) = some (some z, 1, bytes)) (hn : n ≤ 1048576) (hl : bytes * n ≤ 281474976710656)
    (h : ∀ g, g = W.heap.size → K (a.put N (.slice (some ⟨g, 0, none⟩) 0 n)) (W.alloc (.cells (madeCells z.cells n) e (0, 0)))) : if Region.wanted o (yielded ops a.tmps) = true then Oper.wp P o a W K Q else K (a.put N undef) W := by
 obtain ⟨i0, hi, hzz⟩ := Option.map_eq_some_iff.1 hinfo
 simp only [Prod.mk.injEq] at hzz
 obtain ⟨hz0, hz1, hz2⟩ := hzz
 have hr := run_make (P := P) W t e i0 z ht hi hz0 .i64 .i64 0 (n : Int) (by omega) (by omega) (by rw [hz2, ← Int.natCast_mul]; omega) (by omega)
 simp only [Int.toNat_natCast, hz1, Nat.mul_one] at hr
 refine value_ hw hN ?_ (h _ rfl)
 simp [execOp, ho, hx, hy, hr]
theorem alloc_step {o : Oper} {N : Option Tmp} {a : Act} {W : World} {K : Act → World → Prop} {cs : Array Value} {t : TypeId} (hw : Region.wanted o (yielded ops a.tmps) = true) (hN : o.dst = N)
    (hrun : (execOp a.eval o).run P W = .ok (.value (.pointer (some ⟨W.heap.size, 0, none⟩))) (W.alloc (.cells cs t (0, 0))))
    (h : ∀ g, g = W.heap.size → K (a.put N (.pointer (some ⟨g, 0, none⟩))) (W.alloc (.cells cs t (0, 0)))) : if Region.wanted o (yielded ops a.tmps) = true then Oper.wp P o a W K Q else K (a.put N undef) W := value_ hw hN hrun (h _ rfl)
theorem size_made (z : Array Value) (n : Nat) : (madeCells z n).size = n := size_madeCells z n
theorem R_made0 {k : IntKind} {w : World} {B g n : Nat} {e : TypeId} {cells : Array Value} (hb : w.heap[g]? = some (.cells cells e (0, 0))) (hg : B ≤ g) (hn : n ≤ 1048576) (hs : cells.size = n) : (nat k).R e w B (fun _ => True) (.slice (some ⟨g, 0, none⟩) 0 n) [] := by
 refine Kd.R_of_own ⟨rfl, .inr ⟨g, n, cells, rfl, hg, hb, Nat.zero_le _, ?_, by rw [hs, Nat.mul_one], ?_⟩⟩ (fun _ _ => trivial)
 ·simp only [maxLen]; omega
 ·rfl
end
/-- the grid of a function -/
def gridTo (F : Nat → Nat → Nat) (W n : Nat) : List Nat := (List.range n).map (fun i => F (i % W) (i / W))
theorem gridTo_succ (F : Nat → Nat → Nat) {W x y : Nat} (hx : x < W) : gridTo F W (y * W + x + 1) = gridTo F W (y * W + x) ++ [F x y] := by
 unfold gridTo
 rw [List.range_succ, List.map_append, List.map_singleton]
 have h1 : (y * W + x) % W = x := by rw [Nat.add_comm, Nat.add_mul_mod_self_right, Nat.mod_eq_of_lt hx]
 have h2 : (y * W + x) / W = y := by rw [Nat.add_comm, Nat.add_mul_div_right _ _ (by omega : 0 < W), Nat.div_eq_of_lt hx, Nat.zero_add]
 rw [h1, h2]
@[simp] theorem gridTo_length (F : Nat → Nat → Nat) (W n : Nat) : (gridTo F W n).length = n := by simp [gridTo]
/-- calls of a function value tell F at places -/
def Tells (f : FuncId) (caps : Array Value) (F : Nat → Nat → Nat) (W H : Nat) (w : World) : Prop :=
 ∀ w1, Below w.heap.size w w1 → ∀ x y : Nat, x < W → y < H → Calls Try.prog f (#[.int .i64 (x : Int), .int .i64 (y : Int)] ++ caps) w1 fun e w2 => e = .returned (.int .u32 ((F x y : Nat) : Int)) ∧ Below w1.heap.size w1 w2

def Mid (w : World) (gm gr W HH : Nat) (fv v0 : Value) (gp : Nat) (w1 : World) : Prop :=
 (nat .u32).R 24 w1 w.heap.size (fun _ => True) v0 [] ∧ w1.heap[gp]? = some (.cells #[.int .i64 0, .int .i64 0, .slice none 0 0] 31 (0, 0)) ∧ w1.heap[gm]? = some (.cells #[.int .i64 (W : Int), .int .i64 (HH : Int), fv] 137 (0, 0)) ∧ w1.heap[gr]? = some (.cells #[.int .i64 0, .int .i64 0, .slice none 0 0] 31 (0, 0)) ∧ Below w.heap.size w w1 ∧ (w.heap.size ≤ gp ∧ gp ≠ gr ∧ gp ≠ gm)
section
variable {w X : World} {gm gr W HH : Nat} {fv : Value}
theorem alloc_size (X : World) (o : Obj) : (X.alloc o).heap.size = X.heap.size + 1 := by
 have h := blk_lt (blk_new X (Obj.cells #[] 0 (0, 0)))
 simp
theorem part_fin1 {g9 g11 : Nat} (D1 : X.heap[gm]? = some (.cells #[.int .i64 (W : Int), .int .i64 (HH : Int), fv] 137 (0, 0))) (D2 : X.heap[gr]? = some (.cells #[.int .i64 0, .int .i64 0, .slice none 0 0] 31 (0, 0))) (DB : Below w.heap.size w X) (hn : W * HH ≤ 1048576)
    (h9 : g9 = X.heap.size) (h11 : g11 = (X.alloc (.cells (madeCells (Value.int .u32 0).cells (W * HH)) 24 (0, 0))).heap.size) :
    Mid w gm gr W HH fv (.slice (some ⟨g9, 0, none⟩) 0 (W * HH)) g11 ((X.alloc (.cells (madeCells (Value.int .u32 0).cells (W * HH)) 24 (0, 0))).alloc (.cells #[.int .i64 0, .int .i64 0, .slice none 0 0] 31 (0, 0))) := by
 have h1 := blk_lt D1
 have h2 := blk_lt D2
 have h3 := DB.size
 have h4 := h11
 rw [alloc_size] at h4
 refine ⟨by rw [h9]; exact Kd.R_alloc (R_made0 (blk_new X _) (by omega) hn (size_made _ _)) _, by rw [h11]; exact blk_new _ _, blk_alloc (blk_alloc D1 _) _, blk_alloc (blk_alloc D2 _) _, below_alloc (below_alloc DB _) _, ?_⟩
 omega
theorem part_fin2 {g9 g11 : Nat} (D1 : X.heap[gm]? = some (.cells #[.int .i64 (W : Int), .int .i64 (HH : Int), fv] 137 (0, 0))) (D2 : X.heap[gr]? = some (.cells #[.int .i64 0, .int .i64 0, .slice none 0 0] 31 (0, 0))) (DB : Below w.heap.size w X) (hn : W * HH ≤ 1048576)
    (h9 : g9 = (X.alloc (.cells #[.int .i64 0, .int .i64 0, .slice none 0 0] 31 (0, 0))).heap.size) (h11 : g11 = X.heap.size) :
    Mid w gm gr W HH fv (.slice (some ⟨g9, 0, none⟩) 0 (W * HH)) g11 ((X.alloc (.cells #[.int .i64 0, .int .i64 0, .slice none 0 0] 31 (0, 0))).alloc (.cells (madeCells (Value.int .u32 0).cells (W * HH)) 24 (0, 0))) := by
 have h1 := blk_lt D1
 have h2 := blk_lt D2
 have h3 := DB.size
 have h4 := h9
 rw [alloc_size] at h4
 refine ⟨by rw [h9]; exact R_made0 (blk_new _ _) (by rw [alloc_size]; omega) hn (size_made _ _), by rw [h11]; exact blk_alloc (blk_new _ _) _, blk_alloc (blk_alloc D1 _) _, blk_alloc (blk_alloc D2 _) _, below_alloc (below_alloc DB _) _, ?_⟩
 omega
end
theorem put3 {w3 w4 : World} {gp : Nat} {t : TypeId} {a b c x y z : Value} (hP : w3.heap[gp]? = some (.cells #[a, b, c] t (0, 0))) (h : w4 = ((w3.setCell ⟨gp, 0, none⟩ x).setCell ⟨gp, 1, none⟩ y).setCell ⟨gp, 2, none⟩ z) :
    w4.heap[gp]? = some (.cells #[x, y, z] t (0, 0)) ∧ (∀ k, k ≠ gp → w4.heap[k]? = w3.heap[k]?) ∧ (∀ B, B ≤ gp → Below B w3 w4) := by
 subst h
 refine ⟨(blk_set ((blk_set ((blk_set hP 0 x).trans rfl) 1 y).trans rfl) 2 z).trans rfl, fun k hk => ?_, fun B hB => ?_⟩
 ·exact (Below.heap_setCell _ _ _ k hk).trans ((Below.heap_setCell _ _ _ k hk).trans (Below.heap_setCell _ _ _ k hk))
 ·exact (((Below.refl B w3).setCell (p := ⟨gp, 0, none⟩) hB x).setCell (p := ⟨gp, 1, none⟩) hB y).setCell (p := ⟨gp, 2, none⟩) hB z
theorem grid_le {x y W HH : Nat} (hy : y < HH) (hx : x < W) : y * W + x < W * HH := idx_lt rfl hy hx
def MI (w : World) (gm gr gp W HH : Nat) (fv : Value) (w1 : World) (xs : List Nat) (A : Option Addr) (c : Nat) : Prop :=
 (nat .u32).R 24 w1 w.heap.size (fun _ => True) (.slice A xs.length c) xs ∧ w1.heap[gp]? = some (.cells #[.int .i64 (W : Int), .int .i64 (HH : Int), .slice A xs.length c] 31 (0, 0)) ∧ w1.heap[gm]? = some (.cells #[.int .i64 (W : Int), .int .i64 (HH : Int), fv] 137 (0, 0)) ∧ w1.heap[gr]? = some (.cells #[.int .i64 0, .int .i64 0, .slice none 0 0] 31 (0, 0)) ∧ Below w.heap.size w w1
theorem below_lift {w w1 : World} (h : Below w.heap.size w w1) : Below w.heap.size w w1 := h
set_option maxHeartbeats 4000000 in
set_option maxRecDepth 100000 in
theorem made_calls (f : FuncId) (fn : Func) (caps : Array Value) (F : Nat → Nat → Nat) (W HH : Nat) (w : World) (hf : Try.prog.funcs[f]? = some fn) (hname : (fn.name == "runtime.NumGoroutine") = false) (hbody : fn.body.isSome = true) (hWH : W * HH ≤ 1048576) (hW : W ≤ 1048576) (hH : HH ≤ 1048576) (hF : Tells f caps F W HH w) :
    Calls Try.prog 88 #[.agg #[.int .i64 (W : Int), .int .i64 (HH : Int), .func (.func f) #[] caps]] w fun e w' => ∃ v, e = .returned (.agg #[.int .i64 (W : Int), .int .i64 (HH : Int), v]) ∧ (nat .u32).R 24 w' w.heap.size (fun _ => True) v (gridTo F W (W * HH)) ∧ Below w.heap.size w w' := by
 have HF := Aside0.mk hF
 clear hF
 obtain ⟨fv, hfv⟩ : ∃ fv : Value, fv = .func (.func f) #[] caps := ⟨_, rfl⟩
 have hWH4 : 4 * (W * HH) ≤ 281474976710656 := by omega
 have hmul : IntKind.i64.wrap ((W : Int) * (HH : Int)) = ((W * HH : Nat) : Int) := by rw [← Int.natCast_mul]; simp only [IntKind.wrap_i64]; omega
 have hmul2 : wrap64 ((W : Int) * (HH : Int)) = ((W * HH : Nat) : Int) := by rw [← Int.natCast_mul]; exact w64n (by omega)
 obtain ⟨xs0, hxs0⟩ : ∃ xs0 : List Nat, xs0 = [] := ⟨_, rfl⟩
 rw [← hfv]
 have HFV := Aside0.mk hfv
 have HX0 := Aside0.mk hxs0
 clear hfv hxs0
 have hu31 := Try.underlying31
 go_enter Try.func88, Try.ntmps88
 go_wp2_with (first | ((with_reducible refine gate_dst (N := 1) rfl ?_); refine box_event ?hg (N := 1) ?hd (cs := #[.int .i64 (W : Int), .int .i64 (HH : Int), fv]) (t := 137) ?hr ?_; (case hd => rfl); (case hg => rfl); (case hr => first | (go_simp; done) | (go_simp; rfl)); intro gm hgm w1 hm1 hb1; have HM1 := Aside0.mk hm1; have HB1 := Aside0.mk hb1; have GM := Aside0.mk hgm; clear hm1 hb1 hgm) | ((with_reducible refine gate_dst (N := 2) rfl ?_); refine box_event ?hg (N := 2) ?hd (cs := #[.int .i64 0, .int .i64 0, .slice none 0 0]) (t := 31) ?hr ?_; (case hd => rfl); (case hg => rfl); (case hr => first | (go_simp; done) | (go_simp; rfl)); intro gr hgr w2 hm2 hb2; have HM2 := Aside0.mk (blk_below HM1.out hb2); have HR2 := Aside0.mk hm2; have HB2 := Aside0.mk (below_step HB1.out hb2); have GR := Aside0.mk (show w.heap.size ≤ gr by rw [hgr]; exact below_size HB1.out); clear hm2 hb2 hgr))
 have D1 := Aside0.mk (blk_drew HM2.out)
 have D2 := Aside0.mk (blk_drew HR2.out)
 have DB : Aside0 (Below w.heap.size w w2.drew) := ⟨below_drew1 HB2.out⟩
 clear HM2 HR2 HB2
 refine start_ (n := 13) (S := fun w' => w'.cell? ⟨gm, 0, none⟩ = some (.int .i64 (W : Int)) ∧ w'.cell? ⟨gm, 1, none⟩ = some (.int .i64 (HH : Int))) (ds := [12]) #[ff_,ff_,ff_,ff_,ff_,ff_,ff_,ff_,ff_,ff_,ff_,ff_,ff_] (by kernel_rfl) rfl rfl ⟨(blk_cell D1.out 0).trans rfl, (blk_cell D1.out 1).trans rfl⟩ (fun hHeld => ?_)
 generalize w2.drew = wd at *
 refine pure_ (i := 0) (N := some 6) (v := ?_) (a' := ?_) #[tt_,ff_,ff_,ff_,ff_,ff_,ff_,ff_,ff_,ff_,ff_,ff_,ff_] rfl rfl (by kernel_rfl) (fun _ _ _ h => h) (Or.inl ⟨by rfl, ?_⟩) ?_ ?_
 rotate_left
 ·intro w'
  go_simp
  with_reducible rfl
 rotate_left
 ·simp only [Act.put, List.setIfInBounds_toArray, List.set_cons_zero, List.set_cons_succ, i64_w, i32_w]
  rfl
 refine pure_ (i := 2) (N := some 8) (v := ?_) (a' := ?_) #[tt_,ff_,tt_,ff_,ff_,ff_,ff_,ff_,ff_,ff_,ff_,ff_,ff_] rfl rfl (by kernel_rfl) (fun _ _ _ h => h) (Or.inl ⟨by rfl, ?_⟩) ?_ ?_
 rotate_left
 ·intro w'
  go_simp
  with_reducible rfl
 rotate_left
 ·simp only [Act.put, List.setIfInBounds_toArray, List.set_cons_zero, List.set_cons_succ, i64_w, i32_w]
  rfl
 refine pure_ (i := 4) (N := some 10) (v := ?_) (a' := ?_) #[tt_,ff_,tt_,ff_,tt_,ff_,ff_,ff_,ff_,ff_,ff_,ff_,ff_] rfl rfl (by kernel_rfl) (fun _ _ _ h => h) (Or.inl ⟨by rfl, ?_⟩) ?_ ?_
 rotate_left
 ·intro w'
  go_simp
  with_reducible rfl
 rotate_left
 ·simp only [Act.put, List.setIfInBounds_toArray, List.set_cons_zero, List.set_cons_succ, i64_w, i32_w]
  rfl
 refine pure_ (i := 6) (N := some 12) (v := ?_) (a' := ?_) #[tt_,ff_,tt_,ff_,tt_,ff_,tt_,ff_,ff_,ff_,ff_,ff_,ff_] rfl rfl (by kernel_rfl) (fun _ _ _ h => h) (Or.inl ⟨by rfl, ?_⟩) ?_ ?_
 rotate_left
 ·intro w'
  go_simp
  with_reducible rfl
 rotate_left
 ·simp only [Act.put, List.setIfInBounds_toArray, List.set_cons_zero, List.set_cons_succ, i64_w, i32_w]
  rfl
 refine take_ (i := 1) (N := some 7) (v := ?_) (a' := ?_) #[tt_,tt_,tt_,ff_,tt_,ff_,tt_,ff_,ff_,ff_,ff_,ff_,ff_] rfl rfl (by kernel_rfl) (fun _ _ _ h => h) (Or.inl ⟨by rfl, ?_⟩) hHeld ?_ ?_
 rotate_left
 ·rintro w' ⟨s0, s1⟩
  go_simp
  with_reducible rfl
 rotate_left
 ·simp only [Act.put, List.setIfInBounds_toArray, List.set_cons_zero, List.set_cons_succ, i64_w, i32_w]
  rfl
 refine take_ (i := 3) (N := some 9) (v := ?_) (a' := ?_) #[tt_,tt_,tt_,tt_,tt_,ff_,tt_,ff_,ff_,ff_,ff_,ff_,ff_] rfl rfl (by kernel_rfl) (fun _ _ _ h => h) (Or.inl ⟨by rfl, ?_⟩) hHeld ?_ ?_
 rotate_left
 ·rintro w' ⟨s0, s1⟩
  go_simp
  with_reducible rfl
 rotate_left
 ·simp only [Act.put, List.setIfInBounds_toArray, List.set_cons_zero, List.set_cons_succ, i64_w, i32_w]
  rfl
 refine take_ (i := 5) (N := some 11) (v := ?_) (a' := ?_) #[tt_,tt_,tt_,tt_,tt_,tt_,tt_,ff_,ff_,ff_,ff_,ff_,ff_] rfl rfl (by kernel_rfl) (fun _ _ _ h => h) (Or.inl ⟨by rfl, ?_⟩) hHeld ?_ ?_
 rotate_left
 ·rintro w' ⟨s0, s1⟩
  go_simp
  with_reducible rfl
 rotate_left
 ·simp only [Act.put, List.setIfInBounds_toArray, List.set_cons_zero, List.set_cons_succ, i64_w, i32_w]
  rfl
 refine take_ (i := 7) (N := some 13) (v := ?_) (a' := ?_) #[tt_,tt_,tt_,tt_,tt_,tt_,tt_,tt_,ff_,ff_,ff_,ff_,ff_] rfl rfl (by kernel_rfl) (fun _ _ _ h => h) (Or.inl ⟨by rfl, ?_⟩) hHeld ?_ ?_
 rotate_left
 ·rintro w' ⟨s0, s1⟩
  go_simp
  with_reducible rfl
 rotate_left
 ·simp only [Act.put, List.setIfInBounds_toArray, List.set_cons_zero, List.set_cons_succ, i64_w, i32_w]
  rfl
 refine pure_ (i := 8) (N := some 14) (v := ?_) (a' := ?_) #[tt_,tt_,tt_,tt_,tt_,tt_,tt_,tt_,tt_,ff_,ff_,ff_,ff_] rfl rfl (by kernel_rfl) (fun _ _ _ h => h) (Or.inl ⟨by rfl, ?_⟩) ?_ ?_
 rotate_left
 ·intro w'
  go_simp
  with_reducible rfl
 rotate_left
 ·simp only [Act.put, List.setIfInBounds_toArray, List.set_cons_zero, List.set_cons_succ, i64_w, i32_w]
  rfl
 refine join_ (σ := Value × Nat) 1 #[tt_,tt_,tt_,tt_,tt_,tt_,tt_,tt_,tt_,tt_,tt_,tt_,ff_] (fun s => [(15, s.1), (16, .agg #[.int .i64 (W : Int), .int .i64 (HH : Int), s.1]), (3, .pointer (some ⟨s.2, 0, none⟩))]) (fun s w' => Mid w gm gr W HH fv s.1 s.2 w') ?_ ?_
 rotate_left
 ·intro hCont
  refine two_ (i := 9) (j := 11) (Ni := some 15) (Nj := some 3) #[tt_,tt_,tt_,tt_,tt_,tt_,tt_,tt_,tt_,tt_,ff_,ff_,ff_] #[tt_,tt_,tt_,tt_,tt_,tt_,tt_,tt_,tt_,ff_,ff_,tt_,ff_] rfl rfl rfl rfl (by kernel_rfl) (by decide) (by decide) (fun K hK => ?_) (fun K hK => ?_)
  ·skip
   refine make0_step (by rfl) rfl 29 24 _ _ rfl (W * HH) (by rfl) (by first | rfl | exact hmul) Try.underlying29 (.int .u32 0) 4 info24 hWH hWH4 ?_
   intro g9 hg9
   have Hg9 := Aside0.mk hg9
   clear hg9
   refine hK.out _ _ ⟨(blk_cell (blk_alloc D1.out _) 0).trans rfl, (blk_cell (blk_alloc D1.out _) 1).trans rfl⟩ (fun hHeld => ?_)
   clear hK K
   refine norm_ (a' := ?_) ?_ ?_
   rotate_left
   ·show Act.put _ (some 15) _ = _
    simp only [Act.put, List.setIfInBounds_toArray, List.set_cons_zero, List.set_cons_succ, i64_w, i32_w]
    rfl
   refine pure_ (i := 10) (N := some 16) (v := ?_) (a' := ?_) #[tt_,tt_,tt_,tt_,tt_,tt_,tt_,tt_,tt_,tt_,tt_,ff_,ff_] rfl rfl (by kernel_rfl) (fun _ _ _ h => h) (Or.inl ⟨by rfl, ?_⟩) ?_ ?_
   rotate_left
   ·intro w'
    go_simp
    with_reducible rfl
   rotate_left
   ·simp only [Act.put, List.setIfInBounds_toArray, List.set_cons_zero, List.set_cons_succ, i64_w, i32_w]
    rfl
   refine one_ (i := 11) (N := some 3) #[tt_,tt_,tt_,tt_,tt_,tt_,tt_,tt_,tt_,tt_,tt_,tt_,ff_] rfl rfl (by kernel_rfl) (by decide) (fun K hK => ?_)
   refine alloc_step (cs := #[.int .i64 0, .int .i64 0, .slice none 0 0]) (t := 31) (by rfl) rfl (by first | (go_simp; done) | (go_simp; rfl)) ?_
   intro g11 hg11
   have Hg11 := Aside0.mk hg11
   clear hg11
   refine hK.out _ _ ⟨(blk_cell (blk_alloc (blk_alloc D1.out _) _) 0).trans rfl, (blk_cell (blk_alloc (blk_alloc D1.out _) _) 1).trans rfl⟩ (fun hHeld => ?_)
   clear hK K
   refine norm_ (a' := ?_) ?_ ?_
   rotate_left
   ·show Act.put _ (some 3) _ = _
    simp only [Act.put, List.setIfInBounds_toArray, List.set_cons_zero, List.set_cons_succ, i64_w, i32_w]
    rfl
   exact norm_ (by rfl) (hCont (.slice (some ⟨g9, 0, none⟩) 0 (W * HH), g11) _ (part_fin1 D1.out D2.out DB.out hWH Hg9.out Hg11.out))
  ·skip
   refine alloc_step (cs := #[.int .i64 0, .int .i64 0, .slice none 0 0]) (t := 31) (by rfl) rfl (by first | (go_simp; done) | (go_simp; rfl)) ?_
   intro g11 hg11
   have Hg11 := Aside0.mk hg11
   clear hg11
   refine hK.out _ _ ⟨(blk_cell (blk_alloc D1.out _) 0).trans rfl, (blk_cell (blk_alloc D1.out _) 1).trans rfl⟩ (fun hHeld => ?_)
   clear hK K
   refine norm_ (a' := ?_) ?_ ?_
   rotate_left
   ·show Act.put _ (some 3) _ = _
    simp only [Act.put, List.setIfInBounds_toArray, List.set_cons_zero, List.set_cons_succ, i64_w, i32_w]
    rfl
   refine one_ (i := 9) (N := some 15) #[tt_,tt_,tt_,tt_,tt_,tt_,tt_,tt_,tt_,tt_,ff_,tt_,ff_] rfl rfl (by kernel_rfl) (by decide) (fun K hK => ?_)
   refine make0_step (by rfl) rfl 29 24 _ _ rfl (W * HH) (by rfl) (by first | rfl | exact hmul) Try.underlying29 (.int .u32 0) 4 info24 hWH hWH4 ?_
   intro g9 hg9
   have Hg9 := Aside0.mk hg9
   clear hg9
   refine hK.out _ _ ⟨(blk_cell (blk_alloc (blk_alloc D1.out _) _) 0).trans rfl, (blk_cell (blk_alloc (blk_alloc D1.out _) _) 1).trans rfl⟩ (fun hHeld => ?_)
   clear hK K
   refine norm_ (a' := ?_) ?_ ?_
   rotate_left
   ·show Act.put _ (some 15) _ = _
    simp only [Act.put, List.setIfInBounds_toArray, List.set_cons_zero, List.set_cons_succ, i64_w, i32_w]
    rfl
   refine pure_ (i := 10) (N := some 16) (v := ?_) (a' := ?_) #[tt_,tt_,tt_,tt_,tt_,tt_,tt_,tt_,tt_,tt_,tt_,tt_,ff_] rfl rfl (by kernel_rfl) (fun _ _ _ h => h) (Or.inl ⟨by rfl, ?_⟩) ?_ ?_
   rotate_left
   ·intro w'
    go_simp
    with_reducible rfl
   rotate_left
   ·simp only [Act.put, List.setIfInBounds_toArray, List.set_cons_zero, List.set_cons_succ, i64_w, i32_w]
    rfl
   exact norm_ (by rfl) (hCont (.slice (some ⟨g9, 0, none⟩) 0 (W * HH), g11) _ (part_fin2 D1.out D2.out DB.out hWH Hg9.out Hg11.out))
 rintro ⟨v0, gp⟩ w3 hMid
 obtain ⟨hR3, hP3, hM3, hG3, hB3, hpr⟩ := hMid
 simp only at hR3 hP3 hpr
 rw [← HX0.out] at hR3
 obtain ⟨A0, c0, rfl⟩ := Kd.R_slice hR3
 have R3 := Aside0.mk hR3
 have P3 := Aside0.mk hP3
 have M3 := Aside0.mk hM3
 have G3 := Aside0.mk hG3
 have B3 := Aside0.mk hB3
 have PR3 := Aside0.mk hpr
 have hHeld : w3.cell? ⟨gm, 0, none⟩ = some (.int .i64 (W : Int)) ∧ w3.cell? ⟨gm, 1, none⟩ = some (.int .i64 (HH : Int)) := ⟨(blk_cell M3.out 0).trans rfl, (blk_cell M3.out 1).trans rfl⟩
 have p0 := (blk_cell P3.out 0).trans rfl
 have p1 := (blk_cell P3.out 1).trans rfl
 have p2 := (blk_cell P3.out 2).trans rfl
 have f0 := blk_frozen P3.out 0
 have f1 := blk_frozen P3.out 1
 have f2 := blk_frozen P3.out 2
 clear hR3 hP3 hM3 hG3 hB3 hpr
 refine norm_ (a' := ?_) ?_ ?_
 rotate_left
 ·simp only [YtbbebhdcfopmmaaW.PrintLast.putAll, Act.put, List.setIfInBounds_toArray, List.set_cons_zero, List.set_cons_succ]
  rfl
 refine last_ (i := 12) (N := none) #[tt_,tt_,tt_,tt_,tt_,tt_,tt_,tt_,tt_,tt_,tt_,tt_,tt_] rfl rfl (by kernel_rfl) (by decide) (fun K hK => ?_)
 refine skip_ (w1 := ?_) (by rfl) rfl ?_ ?_
 rotate_left
 ·go_simp
  rfl
 refine hK.out _ _ ?_
 clear hK K
 refine done_ (by kernel_rfl) ?_
 obtain ⟨w4, hw4⟩ : ∃ w4, w4 = ((w3.setCell ⟨gp, 0, none⟩ (.int .i64 (W : Int))).setCell ⟨gp, 1, none⟩ (.int .i64 (HH : Int))).setCell ⟨gp, 2, none⟩ (.slice A0 xs0.length c0) := ⟨_, rfl⟩
 rw [← hw4]
 obtain ⟨hP4, hst4, hbl4⟩ := put3 P3.out hw4
 have MI4 : Aside0 (MI w gm gr gp W HH fv w4 xs0 A0 c0) := ⟨Kd.R_mono (Kd.R_move (Kd.R_types R3.out P3.out (by decide)) (fun k hk => hst4 k hk.2)) (fun _ _ => trivial), hP4, (hst4 gm (fun h => PR3.out.2.2 h.symm)).trans M3.out, (hst4 gr (fun h => PR3.out.2.1 h.symm)).trans G3.out, B3.out.trans (hbl4 _ PR3.out.1)⟩
 clear hw4 hP4 hst4 hbl4 p0 p1 p2 f0 f1 f2 hHeld R3 P3 M3 G3 B3 D1 D2 DB
 have z1 := (blk_cell MI4.out.2.2.1 1).trans rfl
 go_wp2
 clear z1
 go_loopw [19] (fun v wr => ∃ (y : Nat) (xs : List Nat) (A : Option Addr) (c : Nat), y ≤ HH ∧ v = .int .i64 (y : Int) ∧ Aside0 (xs = gridTo F W (y * W)) ∧ Aside0 (MI w gm gr gp W HH fv wr xs A c)) (fun v _ => HH - (intOf v).toNat)
 case atStart => exact ⟨0, xs0, A0, c0, Nat.zero_le _, rfl, ⟨by rw [HX0.out]; simp [gridTo]⟩, MI4⟩
 case round =>
  obtain ⟨y, xsy, Ay, cy, hy, rfl, HXY, HI⟩ := hrel
  by_cases hlt : y < HH
  ·have c1 : decide ((y : Int) < (HH : Int)) = true := decide_eq_true (by omega)
   have z0 := (blk_cell HI.out.2.2.1 0).trans rfl
   go_wp2
   clear z0
   go_loopw [24] (fun v wr2 => ∃ (x : Nat) (xs : List Nat) (A : Option Addr) (c : Nat), x ≤ W ∧ v = .int .i64 (x : Int) ∧ Aside0 (xs = gridTo F W (y * W + x)) ∧ Aside0 (MI w gm gr gp W HH fv wr2 xs A c)) (fun v _ => W - (intOf v).toNat)
   case atStart => exact ⟨0, xsy, Ay, cy, Nat.zero_le _, rfl, HXY, HI⟩
   case round =>
    clear HI HXY MI4
    obtain ⟨x, xs, A0, c0, hx, rfl, HX, HI⟩ := hrel
    by_cases hxl : x < W
    ·have c2 : decide ((x : Int) < (W : Int)) = true := decide_eq_true (by omega)
     go_wp2
     obtain ⟨hR, hP, hM, hG, hB⟩ := HI.out
     have R8 := Aside0.mk (Kd.R_drew hR)
     have P8 := Aside0.mk (blk_drew hP)
     have M8 : Aside0 (wr.drew.heap[gm]? = some (.cells #[.int .i64 (W : Int), .int .i64 (HH : Int), .func (.func f) #[] caps] 137 (0, 0))) := ⟨by rw [← HFV.out]; exact blk_drew hM⟩
     have G8 := Aside0.mk (blk_drew hG)
     have B8 := Aside0.mk (below_drew1 hB)
     have HL4 : Aside0 ((xs.length + 1) * 4 ≤ 140737488355328) := ⟨by rw [HX.out, gridTo_length]; have := grid_le hlt hxl; omega⟩
     obtain ⟨xs', hxs'⟩ : ∃ xs' : List Nat, xs' = xs ++ [F x y] := ⟨_, rfl⟩
     have HXS := Aside0.mk hxs'
     clear hxs' hR hP hM hG hB HI
     refine start_ (n := 11) (S := fun w' => w'.cell? ⟨gp, 2, none⟩ = some (.slice A0 xs.length c0) ∧ w'.cell? ⟨gm, 2, none⟩ = some (.func (.func f) #[] caps)) (ds := [10]) #[ff_,ff_,ff_,ff_,ff_,ff_,ff_,ff_,ff_,ff_,ff_] (by kernel_rfl) rfl rfl ⟨(blk_cell P8.out 2).trans rfl, (blk_cell M8.out 2).trans rfl⟩ (fun hHeld => ?_)
     refine pure_ (i := 0) (N := some 27) (v := ?_) (a' := ?_) #[tt_,ff_,ff_,ff_,ff_,ff_,ff_,ff_,ff_,ff_,ff_] rfl rfl (by kernel_rfl) (fun _ _ _ h => h) (Or.inl ⟨by rfl, ?_⟩) ?_ ?_
     rotate_left
     ·intro w'
      go_simp
      with_reducible rfl
     rotate_left
     ·simp only [Act.put, List.setIfInBounds_toArray, List.set_cons_zero, List.set_cons_succ, i64_w, i32_w]
      rfl
     refine pure_ (i := 2) (N := some 29) (v := ?_) (a' := ?_) #[tt_,ff_,tt_,ff_,ff_,ff_,ff_,ff_,ff_,ff_,ff_] rfl rfl (by kernel_rfl) (fun _ _ _ h => h) (Or.inl ⟨by rfl, ?_⟩) ?_ ?_
     rotate_left
     ·intro w'
      go_simp
      with_reducible rfl
     rotate_left
     ·simp only [Act.put, List.setIfInBounds_toArray, List.set_cons_zero, List.set_cons_succ, i64_w, i32_w]
      rfl
     refine pure_ (i := 4) (N := some 31) (v := ?_) (a' := ?_) #[tt_,ff_,tt_,ff_,tt_,ff_,ff_,ff_,ff_,ff_,ff_] rfl rfl (by kernel_rfl) (fun _ _ _ h => h) (Or.inl ⟨by rfl, ?_⟩) ?_ ?_
     rotate_left
     ·intro w'
      go_simp
      with_reducible rfl
     rotate_left
     ·simp only [Act.put, List.setIfInBounds_toArray, List.set_cons_zero, List.set_cons_succ, i64_w, i32_w]
      rfl
     refine pure_ (i := 5) (N := some 32) (v := ?_) (a' := ?_) #[tt_,ff_,tt_,ff_,tt_,tt_,ff_,ff_,ff_,ff_,ff_] rfl rfl (by kernel_rfl) (fun _ _ _ h => h) (Or.inl ⟨by rfl, ?_⟩) ?_ ?_
     rotate_left
     ·intro w'
      go_simp
      with_reducible rfl
     rotate_left
     ·simp only [Act.put, List.setIfInBounds_toArray, List.set_cons_zero, List.set_cons_succ, i64_w, i32_w]
      rfl
     refine take_ (i := 1) (N := some 28) (v := ?_) (a' := ?_) #[tt_,tt_,tt_,ff_,tt_,tt_,ff_,ff_,ff_,ff_,ff_] rfl rfl (by kernel_rfl) (fun _ _ _ h => h) (Or.inl ⟨by rfl, ?_⟩) hHeld ?_ ?_
     rotate_left
     ·rintro w' ⟨s0, s1⟩
      go_simp
      with_reducible rfl
     rotate_left
     ·simp only [Act.put, List.setIfInBounds_toArray, List.set_cons_zero, List.set_cons_succ, i64_w, i32_w]
      rfl
     refine take_ (i := 3) (N := some 30) (v := ?_) (a' := ?_) #[tt_,tt_,tt_,tt_,tt_,tt_,ff_,ff_,ff_,ff_,ff_] rfl rfl (by kernel_rfl) (fun _ _ _ h => h) (Or.inl ⟨by rfl, ?_⟩) hHeld ?_ ?_
     rotate_left
     ·rintro w' ⟨s0, s1⟩
      go_simp
      with_reducible rfl
     rotate_left
     ·simp only [Act.put, List.setIfInBounds_toArray, List.set_cons_zero, List.set_cons_succ, i64_w, i32_w]
      rfl
     refine one_ (i := 6) (N := some 33) #[tt_,tt_,tt_,tt_,tt_,tt_,tt_,ff_,ff_,ff_,ff_] rfl rfl (by kernel_rfl) (by decide) (fun K hK => ?_)
     refine goesV_ hf hname hbody #[.int .i64 (x : Int), .int .i64 (y : Int)] (by rfl) rfl rfl (by rfl) (by (try simp only [List.map_toArray, List.map_cons, List.map_nil]); rfl) ?_
     refine (HF.out _ (below_lift B8.out) x y hxl hlt).mono ?_
     rintro e w9 ⟨rfl, hb9⟩
     refine ⟨_, rfl, ?_⟩
     have P9 := Aside0.mk (blk_below P8.out hb9)
     have M9 := Aside0.mk (blk_below M8.out hb9)
     have G9 := Aside0.mk (blk_below G8.out hb9)
     have R9 := Aside0.mk (Kd.R_below R8.out hb9)
     have B9 := Aside0.mk (below_step B8.out hb9)
     clear hb9
     refine hK.out _ _ ⟨(blk_cell P9.out 2).trans rfl, (blk_cell M9.out 2).trans rfl⟩ (fun hHeld => ?_)
     clear hK K
     refine norm_ (a' := ?_) ?_ ?_
     rotate_left
     ·show Act.put _ (some 33) _ = _
      simp only [Act.put, List.setIfInBounds_toArray, List.set_cons_zero, List.set_cons_succ, i64_w, i32_w]
      rfl
     refine one_ (i := 7) (N := some 34) #[tt_,tt_,tt_,tt_,tt_,tt_,tt_,tt_,ff_,ff_,ff_] rfl rfl (by kernel_rfl) (by decide) (fun K hK => ?_)
     refine value_ (w1 := ?_) (v := ?_) (by rfl) rfl ?_ ?_
     rotate_left 2
     ·go_simp
      constructor
      ·rfl
      ·rfl
     refine hK.out _ _ ⟨(blk_cell (blk_alloc P9.out _) 2).trans rfl, (blk_cell (blk_alloc M9.out _) 2).trans rfl⟩ (fun hHeld => ?_)
     clear hK K
     refine norm_ (a' := ?_) ?_ ?_
     rotate_left
     ·show Act.put _ (some 34) _ = _
      simp only [Act.put, List.setIfInBounds_toArray, List.set_cons_zero, List.set_cons_succ, i64_w, i32_w]
      rfl
     refine one_ (i := 8) (N := some 35) #[tt_,tt_,tt_,tt_,tt_,tt_,tt_,tt_,tt_,ff_,ff_] rfl rfl (by kernel_rfl) (by decide) (fun K hK => ?_)
     refine Kd.R_append_step (nat .u32) (w0 := _) w.heap.size (by rfl) (.tmp 28) (.tmp 34) 29 24 (.int .u32 0) 4 rfl Try.underlying29 info24 rfl (by decide) (by decide) (.slice A0 xs.length c0) xs (F x y) [.int .u32 ((F x y : Nat) : Int)] (fun _ => True) (fun _ => False) rfl rfl ?aP (fun _ hk => hk.elim) (fun _ _ => trivial) (R9.out) (B9.out) ?aS ?aL ?_
     (case aP => exact rfl)
     (case aS => exact below_size B9.out)
     (case aL => exact HL4.out)
     intro v7 w7 hR7 hB7 hg7 hat7
     rw [← HXS.out] at hR7
     obtain ⟨A7, c7, rfl⟩ := Kd.R_slice hR7
     have R7 := Aside0.mk hR7
     have B7 := Aside0.mk hB7
     have P7 := Aside0.mk (blk_grown P9.out hg7 (Kd.R_ne R9.out P9.out (by decide)))
     have M7 := Aside0.mk (blk_grown M9.out hg7 (Kd.R_ne R9.out M9.out (by decide)))
     have G7 := Aside0.mk (blk_grown G9.out hg7 (Kd.R_ne R9.out G9.out (by decide)))
     have q2 := (blk_cell P7.out 2).trans rfl
     have fr2 := blk_frozen P7.out 2
     clear hR7 hB7 hg7 hat7
     refine hK.out _ _ ⟨(blk_cell P7.out 2).trans rfl, (blk_cell M7.out 2).trans rfl⟩ (fun hHeld => ?_)
     clear hK K
     refine norm_ (a' := ?_) ?_ ?_
     rotate_left
     ·show Act.put _ (some 35) _ = _
      simp only [Act.put, List.setIfInBounds_toArray, List.set_cons_zero, List.set_cons_succ, i64_w, i32_w]
      rfl
     refine pure_ (i := 9) (N := some 36) (v := ?_) (a' := ?_) #[tt_,tt_,tt_,tt_,tt_,tt_,tt_,tt_,tt_,tt_,ff_] rfl rfl (by kernel_rfl) (fun _ _ _ h => h) (Or.inl ⟨by rfl, ?_⟩) ?_ ?_
     rotate_left
     ·intro w'
      go_simp
      with_reducible rfl
     rotate_left
     ·simp only [Act.put, List.setIfInBounds_toArray, List.set_cons_zero, List.set_cons_succ, i64_w, i32_w]
      rfl
     refine last_ (i := 10) (N := none) #[tt_,tt_,tt_,tt_,tt_,tt_,tt_,tt_,tt_,tt_,tt_] rfl rfl (by kernel_rfl) (by decide) (fun K hK => ?_)
     refine skip_ (w1 := ?_) (by rfl) rfl ?_ ?_
     rotate_left
     ·go_simp
      rfl
     refine hK.out _ _ ?_
     clear hK K
     refine done_ (by kernel_rfl) ?_
     obtain ⟨w10, hw10⟩ : ∃ w10, w10 = w7.setCell ⟨gp, 2, none⟩ (.slice A7 xs'.length c7) := ⟨_, rfl⟩
     rw [← hw10]
     have P10 : w10.heap[gp]? = some (.cells #[.int .i64 (W : Int), .int .i64 (HH : Int), .slice A7 xs'.length c7] 31 (0, 0)) := by rw [hw10]; exact (blk_set P7.out 2 _).trans rfl
     have st10 : ∀ k, k ≠ gp → w10.heap[k]? = w7.heap[k]? := by rw [hw10]; exact fun k hk => Below.heap_setCell _ _ _ k hk
     have R10 : (nat .u32).R 24 w10 w.heap.size (fun _ => True) (.slice A7 xs'.length c7) xs' := Kd.R_mono (Kd.R_move (Kd.R_types R7.out P7.out (by decide)) (fun k hk => st10 k hk.2)) (fun _ _ => trivial)
     have B10 : Below w.heap.size w w10 := by rw [hw10]; exact B7.out.setCell (p := ⟨gp, 2, none⟩) PR3.out.1 _
     have M10 : w10.heap[gm]? = some (.cells #[.int .i64 (W : Int), .int .i64 (HH : Int), fv] 137 (0, 0)) := by rw [HFV.out]; exact (st10 gm (fun h => PR3.out.2.2 h.symm)).trans M7.out
     have G10 := (st10 gr (fun h => PR3.out.2.1 h.symm)).trans G7.out
     have HI : Aside0 (MI w gm gr gp W HH fv w10 xs' A7 c7) := ⟨R10, P10, M10, G10, B10⟩
     clear hw10 P10 st10 R10 B10 M10 G10 q2 fr2
     try go_wp2
     go_roundw
     case measure => simp [intOf]; omega
     case rel => exact ⟨x + 1, xs', A7, c7, by omega, by go_num, ⟨by rw [HXS.out, HX.out, ← Nat.add_assoc, gridTo_succ F hxl]⟩, HI⟩
    ·obtain rfl : W = x := by omega
     have c2 : decide ((W : Int) < (W : Int)) = false := decide_eq_false (by omega)
     go_wp2
     go_roundw
     case measure => simp [intOf]; omega
     case rel => exact ⟨y + 1, xs, A0, c0, by omega, by go_num, ⟨by rw [HX.out, Nat.succ_mul]⟩, HI⟩
  ·obtain rfl : HH = y := by omega
   have c1 : decide ((HH : Int) < (HH : Int)) = false := decide_eq_false (by omega)
   obtain ⟨hR, hP, hM, hG, hB⟩ := HI.out
   have p0 := (blk_cell hP 0).trans rfl
   have p1 := (blk_cell hP 1).trans rfl
   have p2 := (blk_cell hP 2).trans rfl
   have r0 := (blk_cell hG 0).trans rfl
   have r1 := (blk_cell hG 1).trans rfl
   have r2 := (blk_cell hG 2).trans rfl
   have f0 := blk_frozen hG 0
   have f1 := blk_frozen hG 1
   have f2 := blk_frozen hG 2
   have HR := Aside0.mk hR
   have HG := Aside0.mk hG
   have HB := Aside0.mk hB
   clear hR hP hM hG hB
   go_wp2
   obtain ⟨w5, hw5⟩ : ∃ w5, w5 = ((wr.setCell ⟨gr, 0, none⟩ (.int .i64 (W : Int))).setCell ⟨gr, 1, none⟩ (.int .i64 (HH : Int))).setCell ⟨gr, 2, none⟩ (.slice Ay xsy.length cy) := ⟨_, rfl⟩
   rw [← hw5]
   obtain ⟨hG5, hst5, hbl5⟩ := put3 HG.out hw5
   have e5 : xsy = gridTo F W (W * HH) := by rw [HXY.out, Nat.mul_comm]
   refine bodyPost_ret (results_cell_row rfl _ _ gr 31 #[.int .i64 (W : Int), .int .i64 (HH : Int), .slice Ay xsy.length cy] (0, 0) _ rfl hG5 Try.underlying31 rfl (by kernel_rfl)) rfl ?_
   exact ⟨.slice Ay xsy.length cy, rfl, by rw [← e5]; exact Kd.R_mono (Kd.R_move (Kd.R_types HR.out HG.out (by decide)) (fun k hk => hst5 k hk.2)) (fun _ _ => trivial), HB.out.trans (hbl5 _ GR.out)⟩
end Go.Proofs.Ytbbebhdcfopmmaa.A
end
section
set_option linter.unusedVariables false
set_option linter.unusedSimpArgs false
namespace Go.Proofs.Ytbbebhdcfopmmaa.A
open Go.RowKit Go.Proofs.YtbbebhdcfopmmaaW.PrintWords Go.Proofs.YtbbebhdcfopmmaaW.PrintLast Go.Proofs.YtbbebhdcfopmmaaW.PrintMore Go.Proofs.Ytbbebhdcfopmmaa.PCodecNames

theorem of_calls (W H n c : Nat) (A : Option Addr) (w : World) :
    Calls Try.prog 86 #[.agg #[.int .i64 (W : Int), .int .i64 (H : Int), .slice A n c]] w fun e w' => ∃ g, e = .returned (.func (.func 104) #[] #[.pointer (some ⟨g, 0, none⟩)]) ∧ w.heap.size ≤ g ∧ w'.heap[g]? = some (.cells #[.int .i64 (W : Int), .int .i64 (H : Int), .slice A n c] 31 (0, 0)) ∧ Below w.heap.size w w' := by
 have hu31 := Try.underlying31
 have hmf : ∀ (fn : Fn) (first cap : Array Value) (w : World), (Instr.makeFunc fn first cap).run Try.prog w = .ok (.func fn first cap) w := fun _ _ _ _ => rfl
 go_enter Try.func86, Try.ntmps86
 go_wp2_with ((with_reducible refine gate_dst (N := 1) rfl ?_); refine box_event ?hg (N := 1) ?hd (cs := #[.int .i64 (W : Int), .int .i64 (H : Int), .slice A n c]) (t := 31) ?hr ?_; (case hd => rfl); (case hg => rfl); (case hr => first | (go_simp; done) | (go_simp; rfl)); intro gm hgm w1 hm1 hb1; have HM1 := Aside0.mk hm1; have HB1 := Aside0.mk hb1; have GM := Aside0.mk hgm; clear hm1 hb1 hgm)
 go_ret
 exact ⟨gm, rfl, by rw [GM.out]; exact Nat.le_refl _, HM1.out, HB1.out⟩
set_option maxHeartbeats 1000000 in
theorem of1_calls (W H n c x y g : Nat) (A : Option Addr) (xs : List Nat) (w : World) (hg : w.heap[g]? = some (.cells #[.int .i64 (W : Int), .int .i64 (H : Int), .slice A xs.length c] 31 (0, 0))) (hC : (nat .u32).C w A xs.length xs) (hi : y * W + x < xs.length) (hl : xs.length < 4611686018427387904) :
    Calls Try.prog 104 #[.int .i64 (x : Int), .int .i64 (y : Int), .pointer (some ⟨g, 0, none⟩)] w fun e w' => e = .returned (.int .u32 ((gt xs (y * W + x) : Nat) : Int)) ∧ w = w' := by
 have hu31 := Try.underlying31
 obtain ⟨ad, rfl, hc⟩ := C_nat hC _ hi
 obtain ⟨i, hie⟩ : ∃ i, i = y * W + x := ⟨_, rfl⟩
 rw [← hie] at hc hi ⊢
 have c0 := (blk_cell hg 0).trans rfl
 have c2 := (blk_cell hg 2).trans rfl
 have hyw : y * W ≤ i := by omega
 have hm1 : IntKind.i64.wrap ((y : Int) * (W : Int)) = ((y * W : Nat) : Int) := by rw [← Int.natCast_mul]; simp only [IntKind.wrap_i64]; omega
 have hm2 : IntKind.i64.wrap (((y * W : Nat) : Int) + (x : Int)) = (i : Int) := by simp only [IntKind.wrap_i64]; omega
 have hm3 : IntKind.i64.wrap ((y : Int) * (W : Int) + (x : Int)) = (i : Int) := by rw [← Int.natCast_mul]; exact hm2
 have hlt : (i : Int) < (xs.length : Int) := by omega
 clear hie hyw hl hg hC
 go_enter Try.func104, Try.ntmps104
 go_wp2
 go_ret
 exact ⟨rfl, rfl⟩

/-- a rectangle's places -/
def cropF (xs : List Nat) (W x0 y0 : Nat) (x y : Nat) : Nat := gt xs ((y0 + y) * W + (x0 + x))
def cropN (xs : List Nat) (W x0 y0 x1 y1 : Nat) : List Nat := gridTo (cropF xs W x0 y0) (x1 - x0) ((x1 - x0) * (y1 - y0))
set_option maxHeartbeats 1000000 in
theorem crop1_calls (W H n c x y x0 y0 x1 y1 g ga gr : Nat) (A : Option Addr) (xs : List Nat) (w : World) (hg : w.heap[g]? = some (.cells #[.int .i64 (W : Int), .int .i64 (H : Int), .slice A xs.length c] 31 (0, 0))) (hC : (nat .u32).C w A xs.length xs) (hi : (y0 + y) * W + (x0 + x) < xs.length) (hl : xs.length < 1048576) (hx : x0 + x < 1048576) (hy : y0 + y < 1048576)
    (ha : w.heap[ga]? = some (.cells #[.func (.func 104) #[] #[.pointer (some ⟨g, 0, none⟩)]] 134 (0, 0))) (hr : w.heap[gr]? = some (.cells #[.int .i64 (x0 : Int), .int .i64 (y0 : Int), .int .i64 (x1 : Int), .int .i64 (y1 : Int)] 73 (0, 0))) :
    Calls Try.prog 87 #[.int .i64 (x : Int), .int .i64 (y : Int), .pointer (some ⟨ga, 0, none⟩), .pointer (some ⟨gr, 0, none⟩)] w fun e w' => e = .returned (.int .u32 ((cropF xs W x0 y0 x y : Nat) : Int)) ∧ w = w' := by
 have hu31 := Try.underlying31
 have hu73 := Try.underlying73
 have a0 := (blk_cell ha 0).trans rfl
 have r0 := (blk_cell hr 0).trans rfl
 have r1 := (blk_cell hr 1).trans rfl
 have hm1 : IntKind.i64.wrap ((x0 : Int) + (x : Int)) = ((x0 + x : Nat) : Int) := by simp only [IntKind.wrap_i64]; omega
 have hm2 : IntKind.i64.wrap ((y0 : Int) + (y : Int)) = ((y0 + y : Nat) : Int) := by simp only [IntKind.wrap_i64]; omega
 have HG := Aside0.mk hg
 have HC := Aside0.mk hC
 have HI := Aside0.mk hi
 have HL := Aside0.mk (show xs.length < 4611686018427387904 by omega)
 obtain ⟨X, hX⟩ : ∃ X, X = x0 + x := ⟨_, rfl⟩
 obtain ⟨Y, hY⟩ : ∃ Y, Y = y0 + y := ⟨_, rfl⟩
 have HF : Aside0 (cropF xs W x0 y0 x y = gt xs (Y * W + X)) := ⟨by rw [hX, hY]; rfl⟩
 rw [← hX] at hm1 HI
 rw [← hY] at hm2 HI
 clear hg hC hi hl hx hy hX hY ha hr
 go_enter Try.func87, Try.ntmps87
 go_wp2_with (go_at_call 104; refine (of1_calls W H n c X Y g A xs w HG.out HC.out HI.out HL.out).mono ?_; rintro e w1 ⟨rfl, rfl⟩)
 go_ret
 exact ⟨by rw [HF.out]; rfl, rfl⟩
set_option maxHeartbeats 4000000 in
set_option maxRecDepth 100000 in
theorem Crop_calls (p : Pl) (x0 y0 x1 y1 cap : Nat) (A : Option Addr) (w : World) (hp : p.ok) (hx : x0 < x1) (hx2 : x1 ≤ p.w) (hy : y0 < y1) (hy2 : y1 ≤ p.h) (hC : (nat .u32).C w A p.s.length p.s) (hcap : p.s.length ≤ cap) :
    Calls Try.prog 67 #[.agg #[.int .i64 (p.w : Int), .int .i64 (p.h : Int), .slice A p.s.length cap], .agg #[.int .i64 (x0 : Int), .int .i64 (y0 : Int), .int .i64 (x1 : Int), .int .i64 (y1 : Int)]] w fun e w' => ∃ v, e = .returned (.tuple #[.agg #[.int .i64 ((x1 - x0 : Nat) : Int), .int .i64 ((y1 - y0 : Nat) : Int), v], .int .i64 0]) ∧ (nat .u32).R 24 w' w.heap.size (fun _ => True) v (cropN p.s p.w x0 y0 x1 y1) ∧ Below w.heap.size w w' := by
 have hu31 := Try.underlying31
 have hu73 := Try.underlying73
 have hmf : ∀ (fn : Fn) (first cap : Array Value) (w : World), (Instr.makeFunc fn first cap).run Try.prog w = .ok (.func fn first cap) w := fun _ _ _ _ => rfl
 obtain ⟨o1, o2, o3, o4, o5, o6, o7⟩ := hp
 have hE : checkE (p.w : Int) (p.h : Int) p.s.length = 0 := by
  have := Pl.ok.check (p := p) ⟨o1, o2, o3, o4, o5, o6, o7⟩
  rw [checkE_f _ _ _ (by rw [ints_length]; omega), ints_length, Option.some.injEq] at this
  omega
 have t1 : decide ((x0 : Int) < 0) = false := decide_eq_false (by omega)
 have t2 : decide ((y0 : Int) < 0) = false := decide_eq_false (by omega)
 have t3 : decide (x1 ≤ x0) = false := decide_eq_false (by omega)
 have t4 : decide (y1 ≤ y0) = false := decide_eq_false (by omega)
 have t5 : decide (p.w < x1) = false := decide_eq_false (by omega)
 have t6 : decide (p.h < y1) = false := decide_eq_false (by omega)
 obtain ⟨dx, hdx⟩ : ∃ dx, dx = x1 - x0 := ⟨_, rfl⟩
 obtain ⟨dy, hdy⟩ : ∃ dy, dy = y1 - y0 := ⟨_, rfl⟩
 have hm1 : IntKind.i64.wrap ((x1 : Int) - (x0 : Int)) = (dx : Int) := by simp only [IntKind.wrap_i64]; omega
 have hm2 : IntKind.i64.wrap ((y1 : Int) - (y0 : Int)) = (dy : Int) := by simp only [IntKind.wrap_i64]; omega
 have HIN : Aside0 (∀ x y, x < dx → y < dy → (y0 + y) * p.w + (x0 + x) < p.s.length) := ⟨fun x y h1 h2 => idx_lt o6 (by omega) (by omega)⟩
 have HLS : Aside0 (p.s.length < 1048576) := ⟨by omega⟩
 have HE := Aside0.mk hE
 have HC := Aside0.mk hC
 have HD : Aside0 (dx * dy ≤ 1048576 ∧ dx ≤ 1048576 ∧ dy ≤ 1048576) := ⟨prod_small (by omega) (by omega), by omega, by omega⟩
 have HB1 : Aside0 (∀ x, x < dx → x0 + x < 1048576) := ⟨fun x h => by omega⟩
 have HB2 : Aside0 (∀ y, y < dy → y0 + y < 1048576) := ⟨fun x h => by omega⟩
 have HCR : Aside0 (cropN p.s p.w x0 y0 x1 y1 = gridTo (cropF p.s p.w x0 y0) dx (dx * dy)) := ⟨by rw [hdx, hdy]; rfl⟩
 rw [← hdx, ← hdy]
 have HN : Aside0 (p.s.length < 4611686018427387904) := ⟨by omega⟩
 clear o1 o2 o3 o4 o5 o6 o7 hE hx hx2 hy hy2 hC hcap hdx hdy
 obtain ⟨W, hW⟩ : ∃ W, W = p.w := ⟨_, rfl⟩
 obtain ⟨H, hH⟩ : ∃ H, H = p.h := ⟨_, rfl⟩
 obtain ⟨xs, hxs⟩ : ∃ xs, xs = p.s := ⟨_, rfl⟩
 rw [← hW, ← hxs] at HIN HCR ⊢
 rw [← hW, ← hH, ← hxs] at HE
 rw [← hxs] at HLS HC HN
 rw [← hH]
 rw [← hW] at t5
 rw [← hH] at t6
 rw [HCR.out]
 obtain ⟨zs, hzs⟩ : ∃ zs, zs = gridTo (cropF xs W x0 y0) dx (dx * dy) := ⟨_, rfl⟩
 rw [← hzs]
 have HZ := Aside0.mk hzs
 clear hW hH hxs HCR hzs
 go_enter Try.func67, Try.ntmps67
 go_wp2_with (first | ((with_reducible refine gate_dst (N := 2) rfl ?_); refine box_event ?hg (N := 2) ?hd (cs := #[.int .i64 (W : Int), .int .i64 (H : Int), .slice A xs.length cap]) (t := 31) ?hr ?_; (case hd => rfl); (case hg => rfl); (case hr => first | (go_simp; done) | (go_simp; rfl)); intro gp hgp w1 hm1 hb1; have P1 := Aside0.mk hm1; have B1 := Aside0.mk hb1; have GP := Aside0.mk (show w.heap.size ≤ gp by rw [hgp]; exact Nat.le_refl _); clear hm1 hb1 hgp) |
  ((with_reducible refine gate_dst (N := 3) rfl ?_); refine box_event ?hg (N := 3) ?hd (cs := #[.int .i64 (x0 : Int), .int .i64 (y0 : Int), .int .i64 (x1 : Int), .int .i64 (y1 : Int)]) (t := 73) ?hr ?_; (case hd => rfl); (case hg => rfl); (case hr => first | (go_simp; done) | (go_simp; rfl)); intro gr hgr w2 hm2 hb2; have P2 := Aside0.mk (blk_below P1.out hb2); have R2 := Aside0.mk hm2; have B2 := Aside0.mk (below_step B1.out hb2); have GR := Aside0.mk (show w.heap.size ≤ gr by rw [hgr]; exact below_size B1.out); clear hm2 hb2 hgr) |
  ((with_reducible refine gate_dst (N := 4) rfl ?_); refine box_event ?hg (N := 4) ?hd (cs := #[.int .i64 0, .int .i64 0, .slice none 0 0]) (t := 31) ?hr ?_; (case hd => rfl); (case hg => rfl); (case hr => first | (go_simp; done) | (go_simp; rfl)); intro go_ hgo w3 hm3 hb3; have P3 := Aside0.mk (blk_below P2.out hb3); have R3 := Aside0.mk (blk_below R2.out hb3); have O3 := Aside0.mk hm3; have B3 := Aside0.mk (below_step B2.out hb3); have GO := Aside0.mk (show w.heap.size ≤ go_ by rw [hgo]; exact below_size B2.out); have p0 := (blk_cell P3.out 0).trans rfl; have p1 := (blk_cell P3.out 1).trans rfl; have p2 := (blk_cell P3.out 2).trans rfl; clear hm3 hb3 hgo) |
  (go_at_call 52; refine (Check_calls (W : Int) (H : Int) A xs.length cap _ HN.out).mono ?_; rw [HE.out]; rintro e w4 ⟨rfl, hb⟩; have P4 := Aside0.mk (blk_below P3.out hb); have R4 := Aside0.mk (blk_below R3.out hb); have O4 := Aside0.mk (blk_below O3.out hb); have B4 := Aside0.mk (below_step B3.out hb); clear hb p0 p1 p2; have p0 := (blk_cell P4.out 0).trans rfl; have p1 := (blk_cell P4.out 1).trans rfl; have p2 := (blk_cell P4.out 2).trans rfl; have r0 := (blk_cell R4.out 0).trans rfl; have r1 := (blk_cell R4.out 1).trans rfl; have r2 := (blk_cell R4.out 2).trans rfl; have r3 := (blk_cell R4.out 3).trans rfl) |
  (go_at_call 86; refine (of_calls W H xs.length cap A _).mono ?_; rintro e w5 ⟨g, rfl, hg, hG, hb⟩; have R5 := Aside0.mk (blk_below R4.out hb); have O5 := Aside0.mk (blk_below O4.out hb); have B5 := Aside0.mk (below_step B4.out hb); have G5 := Aside0.mk hG; clear hb hG hg p0 p1 p2 r0 r1 r2 r3) |
  ((with_reducible refine gate_dst (N := 7) rfl ?_); refine box_event ?hg (N := 7) ?hd (cs := #[.nilFunc]) (t := 134) ?hr ?_; (case hd => rfl); (case hg => rfl); (case hr => first | (go_simp; done) | (go_simp; rfl)); intro ga hga w6 hm6 hb6; have R6 := Aside0.mk (blk_below R5.out hb6); have O6 := Aside0.mk (blk_below O5.out hb6); have B6 := Aside0.mk (below_step B5.out hb6); have G6 := Aside0.mk (blk_below G5.out hb6); have A6 := Aside0.mk hm6; have GA := Aside0.mk (show w.heap.size ≤ ga by rw [hga]; exact below_size B5.out); have a0 := (blk_cell A6.out 0).trans rfl; have f0 := blk_frozen A6.out 0; have NR := Aside0.mk (blk_ne R6.out A6.out (by decide)); have NO := Aside0.mk (blk_ne O6.out A6.out (by decide)); have NG := Aside0.mk (blk_ne G6.out A6.out (by decide)); have R7 : Aside0 ((w6.setCell ⟨ga, 0, none⟩ (.func (.func 104) #[] #[.pointer (some ⟨g, 0, none⟩)])).heap[gr]? = some (.cells #[.int .i64 (x0 : Int), .int .i64 (y0 : Int), .int .i64 (x1 : Int), .int .i64 (y1 : Int)] 73 (0, 0))) := ⟨(Below.heap_setCell _ _ _ gr NR.out).trans R6.out⟩; have O7 : Aside0 ((w6.setCell ⟨ga, 0, none⟩ (.func (.func 104) #[] #[.pointer (some ⟨g, 0, none⟩)])).heap[go_]? = some (.cells #[.int .i64 0, .int .i64 0, .slice none 0 0] 31 (0, 0))) := ⟨(Below.heap_setCell _ _ _ go_ NO.out).trans O6.out⟩; have G7 : Aside0 ((w6.setCell ⟨ga, 0, none⟩ (.func (.func 104) #[] #[.pointer (some ⟨g, 0, none⟩)])).heap[g]? = some (.cells #[.int .i64 (W : Int), .int .i64 (H : Int), .slice A xs.length cap] 31 (0, 0))) := ⟨(Below.heap_setCell _ _ _ g NG.out).trans G6.out⟩; have A7 : Aside0 ((w6.setCell ⟨ga, 0, none⟩ (.func (.func 104) #[] #[.pointer (some ⟨g, 0, none⟩)])).heap[ga]? = some (.cells #[.func (.func 104) #[] #[.pointer (some ⟨g, 0, none⟩)]] 134 (0, 0))) := ⟨(blk_set A6.out 0 _).trans rfl⟩; have B7 : Aside0 (Below w.heap.size w (w6.setCell ⟨ga, 0, none⟩ (.func (.func 104) #[] #[.pointer (some ⟨g, 0, none⟩)]))) := ⟨B6.out.setCell (p := ⟨ga, 0, none⟩) GA.out _⟩; have r0 := (blk_cell R7.out 0).trans rfl; have r1 := (blk_cell R7.out 1).trans rfl; have r2 := (blk_cell R7.out 2).trans rfl; have r3 := (blk_cell R7.out 3).trans rfl; clear hm6 hb6 hga) |
  (go_at_call 88; refine (made_calls 87 Try.f87 #[.pointer (some ⟨ga, 0, none⟩), .pointer (some ⟨gr, 0, none⟩)] (cropF xs W x0 y0) dx dy _ Try.func87 rfl rfl HD.out.1 HD.out.2.1 HD.out.2.2 ?_).mono ?_; (case _ => exact fun w8 hb8 x y hx hy => (crop1_calls W H xs.length cap x y x0 y0 x1 y1 g ga gr A xs w8 (blk_below G7.out hb8) (Kd.C_below (Kd.C_below HC.out B7.out) (hb8.mono (Nat.le_refl _))) (HIN.out x y hx hy) HLS.out (HB1.out x hx) (HB2.out y hy) (blk_below A7.out hb8) (blk_below R7.out hb8)).mono fun e w9 h => ⟨h.1, by rw [h.2]; exact Below.refl _ _⟩); rw [← HZ.out]; rintro e w8 ⟨v, rfl, hR8, hb8⟩; have V8 := Aside0.mk (Kd.R_lower hR8 B7.out.size); have O8 := Aside0.mk (blk_below O7.out hb8); have B8 := Aside0.mk (below_step B7.out hb8); obtain ⟨Av, cv, rfl⟩ := Kd.R_slice hR8; have o0 := (blk_cell O8.out 0).trans rfl; have o1 := (blk_cell O8.out 1).trans rfl; have o2 := (blk_cell O8.out 2).trans rfl; have fo0 := blk_frozen O8.out 0; have fo1 := blk_frozen O8.out 1; have fo2 := blk_frozen O8.out 2; clear hR8 hb8))
 obtain ⟨w9, hw9⟩ : ∃ w9, w9 = ((w8.setCell ⟨go_, 0, none⟩ (.int .i64 (dx : Int))).setCell ⟨go_, 1, none⟩ (.int .i64 (dy : Int))).setCell ⟨go_, 2, none⟩ (.slice Av zs.length cv) := ⟨_, rfl⟩
 rw [← hw9]
 obtain ⟨hG9, hst9, hbl9⟩ := put3 O8.out hw9
 refine bodyPost_ret (results_ct rfl _ _ go_ 31 #[.int .i64 (dx : Int), .int .i64 (dy : Int), .slice Av zs.length cv] (0, 0) _ rfl hG9 Try.underlying31 rfl (by kernel_rfl)) rfl ?_
 exact ⟨.slice Av zs.length cv, rfl, Kd.R_mono (Kd.R_move (Kd.R_types V8.out O8.out (by decide)) (fun k hk => hst9 k hk.2)) (fun _ _ => trivial), B8.out.trans (hbl9 _ GO.out)⟩
theorem new1_calls (s g : Nat) (x y : Int) (w : World) (hg : w.heap[g]? = some (.cells #[.int .u32 (s : Int)] 24 (0, 0))) :
    Calls Try.prog 110 #[.int .i64 x, .int .i64 y, .pointer (some ⟨g, 0, none⟩)] w fun e w' => e = .returned (.int .u32 (s : Int)) ∧ w = w' := by
 have c0 := (blk_cell hg 0).trans rfl
 go_enter Try.func110, Try.ntmps110
 go_wp2
 go_ret
 exact ⟨rfl, rfl⟩
theorem gridTo_const (s W : Nat) : ∀ n, gridTo (fun _ _ => s) W n = List.replicate n s := by
 intro n
 unfold gridTo
 rw [List.map_const', List.length_range]
set_option maxHeartbeats 4000000 in
set_option maxRecDepth 100000 in
theorem New_calls (x y : Int) (s : Nat) (w : World) :
    Calls Try.prog 96 #[.int .i64 x, .int .i64 y, .int .u32 (s : Int)] w fun e w' => ∃ v, e = .returned (.tuple #[.agg #[.int .i64 (if sizeB x y = true then x else 0), .int .i64 (if sizeB x y = true then y else 0), v], .int .i64 (if sizeB x y = true then 0 else 50)]) ∧ (nat .u32).R 24 w' w.heap.size (fun _ => True) v (if sizeB x y = true then List.replicate (x * y).toNat s else []) ∧ Below w.heap.size w w' := by
 have hu31 := Try.underlying31
 have hmf : ∀ (fn : Fn) (first cap : Array Value) (w : World), (Instr.makeFunc fn first cap).run Try.prog w = .ok (.func fn first cap) w := fun _ _ _ _ => rfl
 obtain ⟨b, hb⟩ : ∃ b, b = sizeB x y := ⟨_, rfl⟩
 have HS := Aside0.mk hb
 rw [← hb]
 cases b with
 | false =>
  clear hb
  simp only [Bool.false_eq_true, if_false]
  go_enter Try.func96, Try.ntmps96
  go_wp2_with (first | ((with_reducible refine gate_dst (N := 5) rfl ?_); refine box_event ?hg (N := 5) ?hd (cs := #[.int .u32 (s : Int)]) (t := 24) ?hr ?_; (case hd => rfl); (case hg => rfl); (case hr => first | (go_simp; done) | (go_simp; rfl)); intro gs hgs w1 hm1 hb1; have B1 := Aside0.mk hb1; clear hm1 hb1 hgs) |
   ((with_reducible refine gate_dst (N := 6) rfl ?_); refine box_event ?hg (N := 6) ?hd (cs := #[.int .i64 0, .int .i64 0, .slice none 0 0]) (t := 31) ?hr ?_; (case hd => rfl); (case hg => rfl); (case hr => first | (go_simp; done) | (go_simp; rfl)); intro go_ hgo w3 hm3 hb3; have O3 := Aside0.mk hm3; have B3 := Aside0.mk (below_step B1.out hb3); have GO := Aside0.mk (show w.heap.size ≤ go_ by rw [hgo]; exact below_size B1.out); have o0 := (blk_cell O3.out 0).trans rfl; have o1 := (blk_cell O3.out 1).trans rfl; have o2 := (blk_cell O3.out 2).trans rfl; have fo0 := blk_frozen O3.out 0; have fo1 := blk_frozen O3.out 1; have fo2 := blk_frozen O3.out 2; clear hm3 hb3 hgo) |
   (go_at_call 80; refine (size_calls x y _).mono ?_; rw [← HS.out]; rintro e w4 ⟨rfl, rfl⟩))
  obtain ⟨w9, hw9⟩ : ∃ w9, w9 = ((w3.setCell ⟨go_, 0, none⟩ (.int .i64 0)).setCell ⟨go_, 1, none⟩ (.int .i64 0)).setCell ⟨go_, 2, none⟩ (.slice none 0 0) := ⟨_, rfl⟩
  rw [← hw9]
  obtain ⟨hG9, hst9, hbl9⟩ := put3 O3.out hw9
  refine bodyPost_ret (results_ct rfl _ _ go_ 31 #[.int .i64 0, .int .i64 0, .slice none 0 0] (0, 0) _ rfl hG9 Try.underlying31 rfl (by kernel_rfl)) rfl ?_
  exact ⟨_, rfl, Kd.R_nil _ _ _ _ _, B3.out.trans (hbl9 _ GO.out)⟩
 | true =>
  simp only [if_true]
  obtain ⟨b1, b2, b3, b4, b5⟩ := sizeB_true hb.symm
  obtain ⟨W, rfl⟩ : ∃ W : Nat, x = W := ⟨x.toNat, by omega⟩
  obtain ⟨H, rfl⟩ : ∃ H : Nat, y = H := ⟨y.toNat, by omega⟩
  have HD : Aside0 (W * H ≤ 1048576 ∧ W ≤ 1048576 ∧ H ≤ 1048576) := ⟨prod_small (by omega) (by omega), by omega, by omega⟩
  obtain ⟨zs, hzs⟩ : ∃ zs, zs = List.replicate ((W : Int) * (H : Int)).toNat s := ⟨_, rfl⟩
  have HZ : Aside0 (gridTo (fun _ _ => s) W (W * H) = zs) := ⟨by rw [gridTo_const, hzs, ← Int.natCast_mul, Int.toNat_natCast]⟩
  rw [← hzs]
  clear hb hzs b1 b2 b3 b4 b5
  go_enter Try.func96, Try.ntmps96
  go_wp2_with (first | ((with_reducible refine gate_dst (N := 5) rfl ?_); refine box_event ?hg (N := 5) ?hd (cs := #[.int .u32 (s : Int)]) (t := 24) ?hr ?_; (case hd => rfl); (case hg => rfl); (case hr => first | (go_simp; done) | (go_simp; rfl)); intro gs hgs w1 hm1 hb1; have S1 := Aside0.mk hm1; have B1 := Aside0.mk hb1; clear hm1 hb1 hgs) |
   ((with_reducible refine gate_dst (N := 6) rfl ?_); refine box_event ?hg (N := 6) ?hd (cs := #[.int .i64 0, .int .i64 0, .slice none 0 0]) (t := 31) ?hr ?_; (case hd => rfl); (case hg => rfl); (case hr => first | (go_simp; done) | (go_simp; rfl)); intro go_ hgo w3 hm3 hb3; have S3 := Aside0.mk (blk_below S1.out hb3); have O3 := Aside0.mk hm3; have B3 := Aside0.mk (below_step B1.out hb3); have GO := Aside0.mk (show w.heap.size ≤ go_ by rw [hgo]; exact below_size B1.out); clear hm3 hb3 hgo) |
   (go_at_call 80; refine (size_calls _ _ _).mono ?_; rw [← HS.out]; rintro e w4 ⟨rfl, rfl⟩) |
   (go_at_call 88; refine (made_calls 110 Try.f110 #[.pointer (some ⟨gs, 0, none⟩)] (fun _ _ => s) W H _ Try.func110 rfl rfl HD.out.1 HD.out.2.1 HD.out.2.2 ?_).mono ?_; (case _ => exact fun w8 hb8 x y hx hy => (new1_calls s gs x y w8 (blk_below S3.out hb8)).mono fun e w9 h => ⟨h.1, by rw [h.2]; exact Below.refl _ _⟩); rw [HZ.out]; rintro e w8 ⟨v, rfl, hR8, hb8⟩; have V8 := Aside0.mk (Kd.R_lower hR8 B3.out.size); have O8 := Aside0.mk (blk_below O3.out hb8); have B8 := Aside0.mk (below_step B3.out hb8); obtain ⟨Av, cv, rfl⟩ := Kd.R_slice hR8; have o0 := (blk_cell O8.out 0).trans rfl; have o1 := (blk_cell O8.out 1).trans rfl; have o2 := (blk_cell O8.out 2).trans rfl; have fo0 := blk_frozen O8.out 0; have fo1 := blk_frozen O8.out 1; have fo2 := blk_frozen O8.out 2; clear hR8 hb8))
  obtain ⟨w9, hw9⟩ : ∃ w9, w9 = ((w8.setCell ⟨go_, 0, none⟩ (.int .i64 (W : Int))).setCell ⟨go_, 1, none⟩ (.int .i64 (H : Int))).setCell ⟨go_, 2, none⟩ (.slice Av zs.length cv) := ⟨_, rfl⟩
  rw [← hw9]
  obtain ⟨hG9, hst9, hbl9⟩ := put3 O8.out hw9
  refine bodyPost_ret (results_ct rfl _ _ go_ 31 #[.int .i64 (W : Int), .int .i64 (H : Int), .slice Av zs.length cv] (0, 0) _ rfl hG9 Try.underlying31 rfl (by kernel_rfl)) rfl ?_
  exact ⟨.slice Av zs.length cv, rfl, Kd.R_mono (Kd.R_move (Kd.R_types V8.out O8.out (by decide)) (fun k hk => hst9 k hk.2)) (fun _ _ => trivial), B8.out.trans (hbl9 _ GO.out)⟩
end Go.Proofs.Ytbbebhdcfopmmaa.A
end
section
set_option linter.unusedVariables false
set_option linter.unusedSimpArgs false
namespace Go.Proofs.Ytbbebhdcfopmmaa.A
open Go.RowKit Go.Proofs.YtbbebhdcfopmmaaW.PrintWords Go.Proofs.YtbbebhdcfopmmaaW.PrintLast Go.Proofs.YtbbebhdcfopmmaaW.PrintMore Go.Proofs.Ytbbebhdcfopmmaa.PCodecNames

/-- bytes of one's own, in the value's own block -/
def OwnB (w : World) (B : Nat) (v : Value) (xs : List Nat) : Prop := (nat .u8).R 5 w B (fun k => v.ownBlock = some k) v xs
theorem OwnB.of_R {w : World} {B : Nat} {ok : Nat → Prop} {v : Value} {xs : List Nat} (h : (nat .u8).R 5 w B ok v xs) : OwnB w B v xs := Kd.R_of_own (Kd.own_of_R h) (fun k hk => hk)
theorem OwnB.C {w : World} {B : Nat} {v : Value} {xs : List Nat} (h : OwnB w B v xs) : ∃ A c, v = .slice A xs.length c ∧ xs.length ≤ c ∧ (nat .u8).C w A xs.length xs := Kd.R_reads h
theorem OwnB.kept {w w1 : World} {B : Nat} {v : Value} {xs : List Nat} {S : Nat → Prop} (h : OwnB w B v xs) (hk : Kept w w1 S) (hS : ∀ k, v.ownBlock = some k → ¬ S k) : OwnB w1 B v xs :=
 Kd.R_step h (fun k ho hlt => hk.2 k hlt (hS k ho))
theorem OwnB.below {w w1 : World} {B : Nat} {v : Value} {xs : List Nat} (h : OwnB w B v xs) (hb : Below w.heap.size w w1) : OwnB w1 B v xs := Kd.R_below h hb
theorem OwnB.lt {w : World} {B : Nat} {v : Value} {xs : List Nat} (h : OwnB w B v xs) {k : Nat} (hk : v.ownBlock = some k) : B ≤ k ∧ k < w.heap.size := by
 have := (Kd.R_bound h).1 k hk
 exact ⟨this.2.1, this.2.2.1⟩
/-- two rows of one's own do not share a block -/
def ApartV (u v : Value) : Prop := ∀ k, u.ownBlock = some k → v.ownBlock ≠ some k
theorem crc_lt {l : List Nat} (h : ∀ i, gt l i < 256) : crc l < 4294967296 := by unfold crc; omega
set_option maxHeartbeats 1000000 in
theorem summed_calls (g cap : Nat) (A : Option Addr) (v : Value) (b xs : List Nat) (w0 w : World) (hT : TB w g) (hB : Below w0.heap.size w0 w) (ho : OwnB w w0.heap.size v b) (hC : (nat .u8).C w A xs.length xs) (hcap : xs.length ≤ cap) (h8 : ∀ i, gt xs i < 256) (hl : xs.length < 1152921504606846976) (hbl : b.length < 70368744177664) :
    Calls Try.prog 70 #[.pointer (some ⟨g, 0, none⟩), v, .slice A xs.length cap] w fun e w' => ∃ v', e = .returned v' ∧ OwnB w' w0.heap.size v' (b ++ beN 4 (crc xs)) ∧ Below w0.heap.size w0 w' ∧ Kept w w' (fun k => v.ownBlock = some k) ∧ (∀ k, v'.ownBlock = some k → v.ownBlock = some k ∨ w.heap.size ≤ k) := by
 obtain ⟨Ab, cb, hv, _⟩ := ho.C
 obtain ⟨z, hz⟩ : ∃ z, z = crc xs := ⟨_, rfl⟩
 have HZ := Aside0.mk hz
 have hzl : z < 4294967296 := by rw [hz]; exact crc_lt h8
 have hcv : IntKind.i64.wrap (z : Int) = (z : Int) := by simp only [IntKind.wrap_i64]; omega
 have HS := Aside0.mk (sum_calls g A cap xs w hT hC hcap h8 hl)
 have HO := Aside0.mk ho
 have HB := Aside0.mk hB
 have HBL := Aside0.mk hbl
 subst hv
 rw [← hz]
 clear hz hT hC hcap h8 hl hB hbl ho
 go_enter Try.func70, Try.ntmps70
 go_wp2_with (first | (go_at_call 46; refine HS.out.mono ?_; rw [← HZ.out]; rintro e w1 ⟨rfl, hb⟩; have B1 := Aside0.mk hb; clear hb) |
  (go_at_call 65; refine (codec_numbered.calls 6 (fun k => (Value.slice Ab b.length cb).ownBlock = some k) (.slice Ab b.length cb) (ints b) 4 (z : Int) (ints (b ++ beN 4 z)) w0 _ ?h1 ?h2 ?h3).mono ?_; (case h1 => exact below_step HB.out B1.out); (case h2 => exact R_ints (Kd.R_below HO.out B1.out)); (case h3 => exact numbered_f b 4 z 6 (by omega) (by omega) HBL.out); rintro e w2 ⟨v', rfl, hR, hb, hk⟩; have R2 := Aside0.mk hR; have B2 := Aside0.mk hb; have K2 := Aside0.mk hk; clear hR hb hk))
 go_ret
 refine ⟨_, rfl, OwnB.of_R (R_nats R2.out), B2.out, ⟨Nat.le_trans B1.out.size K2.out.1, fun i hi hn => (K2.out.2 i (Nat.lt_of_lt_of_le hi B1.out.size) hn).trans (B1.out.block i hi)⟩, fun k hk => ?_⟩
 rcases R2.out.1 k hk with h | h
 ·exact .inl h
 ·exact .inr (Nat.le_trans B1.out.size h)

theorem magic_calls (w : World) : Calls Try.prog 64 #[] w fun e w' => e = .returned (.agg #[.int .u8 72, .int .u8 76, .int .u8 68, .int .u8 49]) ∧ Below w.heap.size w w' := by
 have hu106 := Try.underlying106
 go_enter Try.func64, Try.ntmps64
 go_wp2_with ((with_reducible refine gate_dst (N := 0) rfl ?_); refine box_event ?hg (N := 0) ?hd (cs := #[.int .u8 0, .int .u8 0, .int .u8 0, .int .u8 0]) (t := 106) ?hr ?_; (case hd => rfl); (case hg => rfl); (case hr => first | (go_simp; done) | (go_simp; rfl)); intro g hg w1 hm hb; have G1 := Aside0.mk hm; have B1 := Aside0.mk hb; have GG := Aside0.mk (show w.heap.size ≤ g by rw [hg]; exact Nat.le_refl _); have o0 := (blk_cell G1.out 0).trans rfl; have o1 := (blk_cell G1.out 1).trans rfl; have o2 := (blk_cell G1.out 2).trans rfl; have o3 := (blk_cell G1.out 3).trans rfl; have fo0 := blk_frozen G1.out 0; have fo1 := blk_frozen G1.out 1; have fo2 := blk_frozen G1.out 2; have fo3 := blk_frozen G1.out 3; clear hm hb hg)
 obtain ⟨w2, hw2⟩ : ∃ w2, w2 = (((w1.setCell ⟨g, 0, none⟩ (.int .u8 72)).setCell ⟨g, 1, none⟩ (.int .u8 76)).setCell ⟨g, 2, none⟩ (.int .u8 68)).setCell ⟨g, 3, none⟩ (.int .u8 49) := ⟨_, rfl⟩
 rw [← hw2]
 have hG2 : w2.heap[g]? = some (.cells #[.int .u8 72, .int .u8 76, .int .u8 68, .int .u8 49] 106 (0, 0)) := by
  rw [hw2]; exact (blk_set ((blk_set ((blk_set ((blk_set G1.out 0 _).trans rfl) 1 _).trans rfl) 2 _).trans rfl) 3 _).trans rfl
 refine bodyPost_ret (results_cell_row rfl _ _ g 106 #[.int .u8 72, .int .u8 76, .int .u8 68, .int .u8 49] (0, 0) _ rfl hG2 hu106 rfl (by kernel_rfl)) rfl ?_
 refine ⟨rfl, ?_⟩
 rw [hw2]
 exact (((B1.out.setCell (p := ⟨g, 0, none⟩) GG.out _).setCell (p := ⟨g, 1, none⟩) GG.out _).setCell (p := ⟨g, 2, none⟩) GG.out _).setCell (p := ⟨g, 3, none⟩) GG.out _

structure Pic where
 sp : Nat
 w : Nat
 h : Nat
 ss : List (List Nat)
def Pic.pl (p : Pic) (k : Nat) : Pl := ⟨p.w, p.h, p.ss.getD k []⟩
def Pic.ok (p : Pic) : Prop := p.sp ≤ 4 ∧ 0 < p.ss.length ∧ p.ss.length ≤ 4 ∧ (p.sp = 0 ∨ 3 ≤ p.ss.length) ∧ ∀ k, k < p.ss.length → (p.pl k).ok
def Pic.s31s (p : Pic) : List S31 := p.ss.map (fun s => ⟨(p.w : Int), (p.h : Int), ints s⟩)
/-- the bytes of a rectangle of one plane -/
def bodyN (s : List Nat) (W x0 y0 x1 y1 : Nat) : List Nat := packed (restsN (cropN s W x0 y0 x1 y1) (x1 - x0))
def Pic.body (p : Pic) (S n : Nat) : List Nat :=
 bodyN (p.ss.getD (n % p.ss.length) []) p.w (tX p.w S (n / p.ss.length)) (tY p.w S (n / p.ss.length)) (min (tX p.w S (n / p.ss.length) + S) p.w) (min (tY p.w S (n / p.ss.length) + S) p.h)
def Pic.head (p : Pic) (S : Nat) : List Nat := [72, 76, 68, 49, p.sp % 256, p.ss.length % 256] ++ beN 2 p.w ++ beN 2 p.h ++ beN 2 S
def Pic.idx (p : Pic) (S n : Nat) : List Nat := (List.range n).flatMap (fun i => beN 4 (p.body S i).length)
def Pic.parts (p : Pic) (S n : Nat) : List Nat := (List.range n).flatMap (fun i => p.body S i ++ beN 4 (crc (p.body S i)))
def Pic.count (p : Pic) (S : Nat) : Nat := tilesN p.w p.h S * p.ss.length
def encN (p : Pic) (S : Nat) : List Nat :=
 (p.head S ++ p.idx S (p.count S)) ++ beN 4 (crc (p.head S ++ p.idx S (p.count S))) ++ p.parts S (p.count S)
theorem Pic.idx_succ (p : Pic) (S n : Nat) : p.idx S (n + 1) = p.idx S n ++ beN 4 (p.body S n).length := by
 unfold Pic.idx; rw [List.range_succ, List.flatMap_append]; simp
theorem Pic.parts_succ (p : Pic) (S n : Nat) : p.parts S (n + 1) = p.parts S n ++ (p.body S n ++ beN 4 (crc (p.body S n))) := by
 unfold Pic.parts; rw [List.range_succ, List.flatMap_append]; simp
end Go.Proofs.Ytbbebhdcfopmmaa.A
end
section
set_option linter.unusedVariables false
set_option linter.unusedSimpArgs false
namespace Go.Proofs.Ytbbebhdcfopmmaa.A
open Go.RowKit Go.Proofs.YtbbebhdcfopmmaaW.PrintWords Go.Proofs.YtbbebhdcfopmmaaW.PrintLast Go.Proofs.YtbbebhdcfopmmaaW.PrintMore Go.Proofs.Ytbbebhdcfopmmaa.PCodecNames

section
variable {P : Program} {ops : Array Oper} {Q : Exit → Act → World → Prop}
/-- append to a full row: a new row -/
theorem grow_step {o : Oper} {N : Option Tmp} {a : Act} {W : World} {K : Act → World → Prop} (hw : Region.wanted o (yielded ops a.tmps) = true) (hN : o.dst = N) (s x : Operand) (t e : TypeId) (z : Value) (bytes : Nat)
    (ho : o.op = .call { callee := .builtin .append, args := #[s, x], argTypes := #[t, t] }) (ht : P.underlying t = some (.slice e)) (hinfo : (P.info? e).map (fun i => (i.zero, i.size, i.bytes)) = some (some z, 1, bytes)) (hz : z.cells.size = 1)
    (b ad : Addr) (n m c : Nat) (olds news : List Value) (hs : a.eval s = .slice (some b) n n) (hx : a.eval x = .slice (some ad) m c) (hlo : olds.length = n) (hln : news.length = m) (hm : 0 < m) (hl : (n + m) ≤ 1048576) (hb : bytes ≤ 1048576)
    (holds : ∀ j u, olds[j]? = some u → W.cell? (b.add j) = some u) (hnews : ∀ j u, news[j]? = some u → W.cell? (ad.add j) = some u)
    (h : ∀ v w1, w1.ownsRow W.heap.size e 1 v (n + m) (olds ++ news) → W.grownBy w1 none → K (a.put N v) w1) : if Region.wanted o (yielded ops a.tmps) = true then Oper.wp P o a W K Q else K (a.put N undef) W := by
 obtain ⟨i0, hi, hzz⟩ := Option.map_eq_some_iff.1 hinfo
 simp only [Prod.mk.injEq] at hzz
 obtain ⟨hz0, hz1, hz2⟩ := hzz
 have hbb : (n + m) * bytes ≤ 140737488355328 := Nat.le_trans (Nat.mul_le_mul hl hb) (by decide)
 obtain ⟨v, w1, hr, hown, hg⟩ := run_append_arg_grows (P := P) W t o.type e i0 z 1 bytes ht hi hz0 hz1 hz2 hz (by decide) b n n olds (by omega) holds ad m c news (by omega) hnews (by omega) (by simp only [maxLen]; omega) hbb
 rw [if_pos hw]
 subst hN
 unfold Oper.wp
 have hrun : (execOp a.eval o).run P W = .ok (.value v) w1 := by simp [execOp, ho, resolve, Deferred.ofValue, invoke, builtin, hs, hx, hr]
 rw [hrun]
 exact h v w1 hown hg
end
theorem grown_none {w w1 : World} (h : w.grownBy w1 none) : Below w.heap.size w w1 := ⟨h.os, h.tape, h.output, h.size, fun k hk => h.block k hk (by simp)⟩
theorem Ow.move {k : IntKind} {e : TypeId} {w w1 : World} {B : Nat} {v : Value} {xs : List Nat} (h : Ow k e w B v xs) (hm : ∀ g, B ≤ g → g < w.heap.size → w1.heap[g]? = w.heap[g]?) : Ow k e w1 B v xs := by
 rcases h with h | ⟨g, cap, cur, rfl, hB, hh, h3, h4, h5, h6⟩
 ·exact .inl h
 ·exact .inr ⟨g, cap, cur, rfl, hB, (hm g hB (blk_lt hh)).trans hh, h3, h4, h5, h6⟩
theorem OwnB.ne {w : World} {B g : Nat} {t : TypeId} {cs : Array Value} {v : Value} {xs : List Nat} (h : OwnB w B v xs) (hb : w.heap[g]? = some (.cells cs t (0, 0))) (ht : 5 ≠ t) : ¬ v.ownBlock = some g := fun e => Kd.R_ne h hb ht e.symm
theorem TB.move {w w1 : World} {g : Nat} (h : TB w g) (hm : w1.heap[g]? = w.heap[g]?) : TB w1 g := by obtain ⟨cs, h1, h2⟩ := h; exact ⟨cs, hm.trans h1, h2⟩
theorem TB.block {w : World} {g : Nat} (h : TB w g) : ∃ cs : Array Value, w.heap[g]? = some (.cells cs 130 (0, 0)) := by obtain ⟨cs, h1, _⟩ := h; exact ⟨cs, h1⟩

/-- blocks that stay as they are: place, cells, type -/
abbrev Bk := Nat × Array Value × TypeId
def Stay (X : List Bk) (W : World) : Prop := ∀ b ∈ X, W.heap[b.1]? = some (.cells b.2.1 b.2.2 (0, 0)) ∧ 5 ≠ b.2.2
theorem Stay.nil (W : World) : Stay [] W := fun b hb => by cases hb
theorem Stay.cons {X : List Bk} {W : World} {g : Nat} {cs : Array Value} {t : TypeId} (h : W.heap[g]? = some (.cells cs t (0, 0))) (ht : 5 ≠ t) (hX : Stay X W) : Stay ((g, cs, t) :: X) W := fun b hb => by
 rcases List.mem_cons.mp hb with rfl | hb
 ·exact ⟨h, ht⟩
 ·exact hX b hb
theorem Stay.hd {X : List Bk} {W : World} {g : Nat} {cs : Array Value} {t : TypeId} (h : Stay ((g, cs, t) :: X) W) : W.heap[g]? = some (.cells cs t (0, 0)) := (h _ (List.mem_cons_self ..)).1
theorem Stay.tl {X : List Bk} {W : World} {b : Bk} (h : Stay (b :: X) W) : Stay X W := fun c hc => h c (List.mem_cons_of_mem _ hc)
theorem Stay.below {X : List Bk} {W W1 : World} (h : Stay X W) (hb : Below W.heap.size W W1) : Stay X W1 := fun b hm => ⟨blk_below (h b hm).1 hb, (h b hm).2⟩
theorem Stay.kept {X : List Bk} {W W1 : World} {B : Nat} {v : Value} {xs : List Nat} (h : Stay X W) (hv : OwnB W B v xs) (hK : Kept W W1 (fun k => v.ownBlock = some k)) : Stay X W1 :=
 fun b hm => ⟨(hK.2 b.1 (blk_lt (h b hm).1) (hv.ne (h b hm).1 (h b hm).2)).trans (h b hm).1, (h b hm).2⟩
/-- how things stand while Encode runs -/
structure EI (w : World) (X : List Bk) (W : World) (vo vp : Value) (out parts : List Nat) : Prop where
 hX : Stay X W
 hB : Below w.heap.size w W
 ho : OwnB W w.heap.size vo out
 hp : OwnB W w.heap.size vp parts
 ap : ApartV vo vp
theorem EI.below {w : World} {X : List Bk} {W W1 : World} {vo vp : Value} {out parts : List Nat} (h : EI w X W vo vp out parts) (hb : Below W.heap.size W W1) : EI w X W1 vo vp out parts :=
 ⟨h.hX.below hb, below_step h.hB hb, h.ho.below hb, h.hp.below hb, h.ap⟩
theorem EI.out {w : World} {X : List Bk} {W W1 : World} {vo vp v1 : Value} {out parts out1 : List Nat} (h : EI w X W vo vp out parts) (hR : OwnB W1 w.heap.size v1 out1) (hB : Below w.heap.size w W1) (hK : Kept W W1 (fun k => vo.ownBlock = some k)) (hv : ∀ k, v1.ownBlock = some k → vo.ownBlock = some k ∨ W.heap.size ≤ k) :
    EI w X W1 v1 vp out1 parts := by
 refine ⟨h.hX.kept h.ho hK, hB, hR, h.hp.kept hK (fun k hk he => h.ap k he hk), fun k hk he => ?_⟩
 rcases hv k hk with h1 | h1
 ·exact h.ap k h1 he
 ·have := (h.hp.lt he).2; omega
theorem EI.parts {w : World} {X : List Bk} {W W1 : World} {vo vp v1 : Value} {out parts parts1 : List Nat} (h : EI w X W vo vp out parts) (hR : OwnB W1 w.heap.size v1 parts1) (hB : Below w.heap.size w W1) (hK : Kept W W1 (fun k => vp.ownBlock = some k)) (hv : ∀ k, v1.ownBlock = some k → vp.ownBlock = some k ∨ W.heap.size ≤ k) :
    EI w X W1 vo v1 out parts1 := by
 refine ⟨h.hX.kept h.hp hK, hB, h.ho.kept hK (fun k hk he => h.ap k hk he), hR, fun k hk he => ?_⟩
 rcases hv k he with h1 | h1
 ·exact h.ap k hk h1
 ·have := (h.ho.lt hk).2; omega
theorem EI.newX {w : World} {X X1 : List Bk} {W : World} {vo vp : Value} {out parts : List Nat} (h : EI w X W vo vp out parts) (hX : Stay X1 W) : EI w X1 W vo vp out parts := ⟨hX, h.hB, h.ho, h.hp, h.ap⟩
/-- a store into a block that is none of these -/
theorem EI.store {w : World} {X : List Bk} {W W1 : World} {vo vp : Value} {out parts : List Nat} {g : Nat} {cs : Array Value} {t : TypeId} (h : EI w X W vo vp out parts) (hg : W.heap[g]? = some (.cells cs t (0, 0))) (ht : 5 ≠ t) (hX0 : X.all (fun b => b.2.2 != t) = true) (hst : ∀ k, k ≠ g → W1.heap[k]? = W.heap[k]?) (hb : Below w.heap.size W W1) : EI w X W1 vo vp out parts := by
 have hX : ∀ b ∈ X, b.2.2 ≠ t := fun b hb => by simpa using List.all_eq_true.mp hX0 b hb
 have ho : ∀ k, vo.ownBlock = some k → k ≠ g := fun k hk e => h.ho.ne hg ht (e ▸ hk)
 have hp : ∀ k, vp.ownBlock = some k → k ≠ g := fun k hk e => h.hp.ne hg ht (e ▸ hk)
 refine ⟨fun b hm => ⟨(hst b.1 (blk_ne (h.hX b hm).1 hg (hX b hm))).trans (h.hX b hm).1, (h.hX b hm).2⟩, h.hB.trans hb, Kd.R_step h.ho (fun k hk _ => hst k (ho k hk)), Kd.R_step h.hp (fun k hk _ => hst k (hp k hk)), h.ap⟩
/-- numbered, as bytes of one's own -/
theorem numbered_own {w W : World} {B : Nat} {v : Value} {b : List Nat} (n z : Nat) (hn : n ≤ 8) (hb : b.length < 70368744177664) (w0 : World) (hB : Below w0.heap.size w0 W) (ho : OwnB W w0.heap.size v b) :
    Calls Try.prog 65 #[v, .int .i64 (n : Int), .int .i64 (z : Int)] W fun e W' => ∃ v', e = .returned v' ∧ OwnB W' w0.heap.size v' (b ++ beN n z) ∧ Below w0.heap.size w0 W' ∧ Kept W W' (fun k => v.ownBlock = some k) ∧ (∀ k, v'.ownBlock = some k → v.ownBlock = some k ∨ W.heap.size ≤ k) := by
 refine (codec_numbered.calls (n + 2) (fun k => v.ownBlock = some k) v (ints b) (n : Int) (z : Int) (ints (b ++ beN n z)) w0 W hB (R_ints ho) (numbered_f b n z (n + 2) hn (by omega) hb)).mono ?_
 rintro e W' ⟨v', rfl, hR, hb, hk⟩
 exact ⟨v', rfl, OwnB.of_R (R_nats hR), hb, hk, fun k hk => hR.1 k hk⟩
theorem numbered2 {W : World} {v : Value} {b : List Nat} (z : Nat) (hb : b.length < 70368744177664) (w0 : World) (hB : Below w0.heap.size w0 W) (ho : OwnB W w0.heap.size v b) :
    Calls Try.prog 65 #[v, .int .i64 2, .int .i64 (z : Int)] W fun e W' => ∃ v', e = .returned v' ∧ OwnB W' w0.heap.size v' (b ++ beN 2 z) ∧ Below w0.heap.size w0 W' ∧ Kept W W' (fun k => v.ownBlock = some k) ∧ (∀ k, v'.ownBlock = some k → v.ownBlock = some k ∨ W.heap.size ≤ k) := numbered_own (w := W) (B := 0) 2 z (by omega) hb w0 hB ho
theorem numbered4 {W : World} {v : Value} {b : List Nat} (z : Nat) (hb : b.length < 70368744177664) (w0 : World) (hB : Below w0.heap.size w0 W) (ho : OwnB W w0.heap.size v b) :
    Calls Try.prog 65 #[v, .int .i64 4, .int .i64 (z : Int)] W fun e W' => ∃ v', e = .returned v' ∧ OwnB W' w0.heap.size v' (b ++ beN 4 z) ∧ Below w0.heap.size w0 W' ∧ Kept W W' (fun k => v.ownBlock = some k) ∧ (∀ k, v'.ownBlock = some k → v.ownBlock = some k ∨ W.heap.size ≤ k) := numbered_own (w := W) (B := 0) 4 z (by omega) hb w0 hB ho
theorem Pic.ok.len {p : Pic} (h : p.ok) : p.s31s.length = p.ss.length := by simp [Pic.s31s]
theorem Pic.s31s_at (p : Pic) {k : Nat} (hk : k < p.ss.length) : rd_T31 p.s31s (k : Int) = ⟨(p.w : Int), (p.h : Int), ints (p.ss.getD k [])⟩ := by
 unfold rd_T31 Pic.s31s
 rw [Int.toNat_natCast, List.getD_eq_getElem?_getD, List.getElem?_map, List.getD_eq_getElem?_getD, List.getElem?_eq_getElem hk]; rfl
theorem firstErr_ok {l : List S31} (h : ∀ x ∈ l, checkE x.f0 x.f1 x.f2.length = 0) : firstErr l = 0 := by
 induction l with
 | nil => rfl
 | cons a t ih =>
  unfold firstErr
  rw [if_pos (h a (List.mem_cons_self ..))]
  exact ih (fun x hx => h x (List.mem_cons_of_mem _ hx))
theorem sameSize_ok {a : S31} {l : List S31} (h : ∀ x ∈ l, x.f0 = a.f0 ∧ x.f1 = a.f1) : sameSize a l = true := by
 induction l with
 | nil => rfl
 | cons b t ih =>
  unfold sameSize
  rw [decide_eq_true (h b (List.mem_cons_self ..)).1, decide_eq_true (h b (List.mem_cons_self ..)).2, ih (fun x hx => h x (List.mem_cons_of_mem _ hx))]; rfl
theorem Pl.ok.check0 {p : Pl} (h : p.ok) : checkE (p.w : Int) (p.h : Int) p.s.length = 0 := by
 have h1 := h.check
 obtain ⟨o1, o2, o3, o4, o5, o6, o7⟩ := h
 rw [checkE_f _ _ _ (by rw [ints_length]; omega), ints_length, Option.some.injEq] at h1
 omega
theorem Pic.ok.pic0 {p : Pic} (h : p.ok) : picE (p.sp : Int) p.s31s = 0 := by
 obtain ⟨h1, h2, h3, h4, h5⟩ := h
 unfold picE
 have hl : p.s31s.length = p.ss.length := by simp [Pic.s31s]
 have hm : ∀ x ∈ p.s31s, ∃ k, k < p.ss.length ∧ x = ⟨(p.w : Int), (p.h : Int), ints (p.ss.getD k [])⟩ := by
  intro x hx
  obtain ⟨s, hs, rfl⟩ := List.mem_map.mp hx
  obtain ⟨k, hk, rfl⟩ := List.getElem_of_mem hs
  exact ⟨k, hk, by rw [List.getD_eq_getElem?_getD, List.getElem?_eq_getElem hk]; rfl⟩
 have hf : firstErr p.s31s = 0 := firstErr_ok (fun x hx => by
  obtain ⟨k, hk, rfl⟩ := hm x hx
  have := (h5 k hk).check0
  simpa [Pic.pl] using this)
 have h0 := p.s31s_at h2
 have hs : sameSize (rd_T31 p.s31s 0) p.s31s = true := by
  rw [show (0 : Int) = ((0 : Nat) : Int) from rfl, h0]
  exact sameSize_ok (fun x hx => by obtain ⟨k, hk, rfl⟩ := hm x hx; exact ⟨rfl, rfl⟩)
 rw [hl, if_neg (by omega), hf, if_neg (fun h => h rfl), if_pos hs]
 unfold spaceE
 rw [if_neg (by omega)]
theorem stepsBits_len : ∀ (l : List Nat) (s c : Nat), (stepsBits l s c).length ≤ 56 * l.length := by
 intro l
 induction l with
 | nil => intro s c; exact Nat.le_refl _
 | cons x l ih =>
  intro s c
  unfold stepsBits
  rw [List.length_append, List.length_cons]
  have := (codeBits_length (fold x) (kOf s c) (kOf_le s c)).1
  have := ih (nextS s c (fold x)) (nextC c)
  omega
theorem packed_len (l : List Nat) : (packed l).length ≤ 7 * l.length + 1 := by
 rw [(packed_bits l).1.1]
 have h1 := stepsBits_len l 16 1
 have h : (bitsL l).length = (stepsBits l 16 1).length := rfl
 omega
theorem packed_lt (l : List Nat) : ∀ i, gt (packed l) i < 256 := (packed_bits l).1.2
theorem mul_sub_lt {q a W S : Nat} (ha : a = acrossN W S) (hq : q < a) (hW : 0 < W) (hS : 0 < S) : q * S < W := by
 unfold acrossN at ha
 have h1 : a * S ≤ W + S - 1 := by rw [ha]; exact Nat.div_mul_le_self _ _
 have h2 : (q + 1) * S ≤ a * S := Nat.mul_le_mul hq (Nat.le_refl S)
 rw [Nat.succ_mul] at h2
 omega
theorem tX_lt {W S : Nat} (t : Nat) (hW : 0 < W) (hS : 0 < S) : tX W S t < W := mul_sub_lt rfl (Nat.mod_lt _ (acrossN_pos hW hS)) hW hS
theorem tY_lt {W H S t : Nat} (hH : 0 < H) (hS : 0 < S) (ht : t < tilesN W H S) : tY W S t < H := by
 refine mul_sub_lt rfl ?_ hH hS
 unfold tilesN at ht
 exact Nat.div_lt_of_lt_mul ht
theorem crop_ok {p : Pl} (hp : p.ok) {x0 y0 x1 y1 : Nat} (hx : x0 < x1) (hx2 : x1 ≤ p.w) (hy : y0 < y1) (hy2 : y1 ≤ p.h) : (Pl.mk (x1 - x0) (y1 - y0) (cropN p.s p.w x0 y0 x1 y1)).ok := by
 obtain ⟨o1, o2, o3, o4, o5, o6, o7⟩ := hp
 refine ⟨by show 0 < x1 - x0; omega, by show 0 < y1 - y0; omega, by show x1 - x0 ≤ 1024; omega, by show y1 - y0 ≤ 1024; omega, ?_, by show (cropN p.s p.w x0 y0 x1 y1).length = _; unfold cropN; rw [gridTo_length], ?_⟩
 ·exact Nat.le_trans (Nat.mul_le_mul (show x1 - x0 ≤ p.w by omega) (show y1 - y0 ≤ p.h by omega)) o5
 ·refine gt_lt_of (by decide) (fun x hx => ?_)
  unfold cropN gridTo at hx
  obtain ⟨i, _, rfl⟩ := List.mem_map.mp hx
  exact o7 _
theorem restsN_lt (xs : List Nat) (W : Nat) : ∀ i, gt (restsN xs W) i < 4294967296 := by
 refine gt_lt_of (by decide) (fun x hx => ?_)
 unfold restsN restsTo at hx
 obtain ⟨i, _, rfl⟩ := List.mem_map.mp hx
 exact restAt_lt _ _ _
theorem restsN_length (xs : List Nat) (W : Nat) : (restsN xs W).length = xs.length := restsTo_length _ _ _
theorem bodyN_len {p : Pl} (hp : p.ok) (x0 y0 x1 y1 : Nat) (hx2 : x1 ≤ p.w) (hy2 : y1 ≤ p.h) : (bodyN p.s p.w x0 y0 x1 y1).length ≤ 458753 := by
 obtain ⟨o1, o2, o3, o4, o5, o6, o7⟩ := hp
 unfold bodyN
 have h1 := packed_len (restsN (cropN p.s p.w x0 y0 x1 y1) (x1 - x0))
 rw [restsN_length] at h1
 have h2 : (cropN p.s p.w x0 y0 x1 y1).length ≤ 65536 := by
  unfold cropN
  rw [gridTo_length]
  exact Nat.le_trans (Nat.mul_le_mul (show x1 - x0 ≤ p.w by omega) (show y1 - y0 ≤ p.h by omega)) o5
 omega
theorem Pic.body_at (p : Pic) (S t k : Nat) (hk : k < p.ss.length) : p.body S (t * p.ss.length + k) = bodyN (p.ss.getD k []) p.w (tX p.w S t) (tY p.w S t) (min (tX p.w S t + S) p.w) (min (tY p.w S t + S) p.h) := by
 unfold Pic.body
 have h1 : (t * p.ss.length + k) % p.ss.length = k := by rw [Nat.add_comm, Nat.add_mul_mod_self_right, Nat.mod_eq_of_lt hk]
 have h2 : (t * p.ss.length + k) / p.ss.length = t := by rw [Nat.add_comm, Nat.add_mul_div_right _ _ (by omega : 0 < p.ss.length), Nat.div_eq_of_lt hk, Nat.zero_add]
 rw [h1, h2]
theorem Pic.body_len {p : Pic} (hp : p.ok) (S n : Nat) : (p.body S n).length ≤ 458753 := by
 have h0 : 0 < p.ss.length := hp.2.1
 exact bodyN_len (hp.2.2.2.2 (n % p.ss.length) (Nat.mod_lt _ h0)) _ _ _ _ (Nat.min_le_right _ _) (Nat.min_le_right _ _)
theorem Pic.idx_len (p : Pic) (S n : Nat) : (p.idx S n).length = 4 * n := by
 induction n with
 | zero => rfl
 | succ n ih => rw [p.idx_succ, List.length_append, ih, beN_length]; omega
theorem Pic.parts_len {p : Pic} (hp : p.ok) (S n : Nat) : (p.parts S n).length ≤ 458757 * n := by
 induction n with
 | zero => exact Nat.le_refl _
 | succ n ih =>
  have := Pic.body_len hp S n
  rw [p.parts_succ, List.length_append, List.length_append, beN_length]
  omega
theorem Pic.head_len (p : Pic) (S : Nat) : (p.head S).length = 12 := rfl
theorem tilesN_le {W H S : Nat} (h : W * H ≤ 65536) : tilesN W H S ≤ 65536 := Nat.le_trans (Nat.mul_le_mul (acrossN_le W S) (acrossN_le H S)) h
theorem Rests_own {x y : Nat} {A : Option Addr} {c : Nat} {zs rs : List Nat} {w : World} (k : Nat) (hC : (nat .u32).C w A zs.length zs) (hc : zs.length ≤ c) (h : codec_Rests.f k (x : Int) (y : Int) (ints zs) = some (ints rs, 0)) :
    Calls Try.prog 22 #[.agg #[.int .i64 (x : Int), .int .i64 (y : Int), .slice A zs.length c]] w fun e w' => ∃ v, e = .returned (.tuple #[v, .int .i64 0]) ∧ (nat .u32).R 24 w' w.heap.size (fun _ => True) v rs ∧ Below w.heap.size w w' := by
 have hC' := C_ints hC
 have h2 := codec_Rests.calls k (x : Int) (y : Int) A c (ints zs) (ints rs) 0 w (by rw [ints_length]; exact hC') (by rw [ints_length]; exact hc) h
 rw [ints_length] at h2
 refine h2.mono ?_
 rintro e w' ⟨v, rfl, hR, hb⟩
 exact ⟨v, rfl, R_nats hR, hb⟩
theorem kept_grown {W W1 : World} {v : Value} (hg : W.grownBy W1 v.ownBlock) : Kept W W1 (fun k => v.ownBlock = some k) := ⟨hg.size, fun i hi hn => hg.block i hi (fun e => hn e.symm)⟩
theorem hat_or {W : World} {v v1 : Value} (h : v1.ownBlock = v.ownBlock ∨ ∃ b, v1.ownBlock = some b ∧ W.heap.size ≤ b) : ∀ k, v1.ownBlock = some k → v.ownBlock = some k ∨ W.heap.size ≤ k := by
 intro k hk
 rcases h with h | ⟨b, h, hb⟩
 ·exact .inl (h ▸ hk)
 ·rw [h] at hk; injection hk with hk; subst hk; exact .inr hb
theorem Pic.out8 (p : Pic) (S n : Nat) : ∀ i, gt (p.head S ++ p.idx S n) i < 256 := by
 refine gt_lt_of (by decide) (fun x hx => ?_)
 rcases List.mem_append.mp hx with hx | hx
 ·unfold Pic.head at hx
  rcases List.mem_append.mp hx with hx | hx
  ·rcases List.mem_append.mp hx with hx | hx
   ·rcases List.mem_append.mp hx with hx | hx
    ·have h1 : p.sp % 256 < 256 := Nat.mod_lt _ (by decide)
     have h2 : p.ss.length % 256 < 256 := Nat.mod_lt _ (by decide)
     simp only [List.mem_cons, List.not_mem_nil, or_false] at hx
     omega
    ·exact beN_lt _ _ x hx
   ·exact beN_lt _ _ x hx
  ·exact beN_lt _ _ x hx
 ·unfold Pic.idx at hx
  obtain ⟨j, _, hx⟩ := List.mem_flatMap.mp hx
  exact beN_lt _ _ x hx
end Go.Proofs.Ytbbebhdcfopmmaa.A
end
section
set_option linter.unusedVariables false
set_option linter.unusedSimpArgs false
namespace Go.Proofs.Ytbbebhdcfopmmaa.A
open Go.RowKit Go.Proofs.YtbbebhdcfopmmaaW.PrintWords Go.Proofs.YtbbebhdcfopmmaaW.PrintLast Go.Proofs.YtbbebhdcfopmmaaW.PrintMore Go.Proofs.Ytbbebhdcfopmmaa.PCodecNames

theorem wrapI {z : Int} {d : Nat} (h : z = (d : Int)) (hd : d < 4611686018427387904) : IntKind.i64.wrap z = (d : Int) := by rw [h]; simp only [IntKind.wrap_i64]; omega
theorem wrapJ {z : Int} {d : Nat} (h : z = (d : Int)) (hd : d < 4611686018427387904) : wrap64 z = (d : Int) := by rw [h]; unfold wrap64; omega
theorem number_own {A : Option Addr} {c : Nat} {l : List Nat} {w : World} (hC : (nat .u8).C w A l.length l) (hc : l.length ≤ c) (hl : l.length ≤ 6) (h8 : ∀ i, gt l i < 256) :
    Calls Try.prog 94 #[.slice A l.length c] w fun e w' => e = .returned (.int .i64 ((numL 0 l : Nat) : Int)) ∧ Below w.heap.size w w' := by
 have hC' := C_ints hC
 have h2 := codec_number.calls 8 A c (ints l) ((numL 0 l : Nat) : Int) w (by rw [ints_length]; exact hC') (by rw [ints_length]; exact hc) (number_f l 8 hl h8 (Nat.le_refl _))
 rw [ints_length] at h2
 exact h2.mono fun e w' h => ⟨h.1, by obtain ⟨n, hn⟩ := h.2.out; rw [hn]; exact pw_below_drewN (Below.refl _ _) n⟩
set_option maxHeartbeats 1000000 in
set_option maxRecDepth 100000 in
theorem C_sub {k : IntKind} {w : World} {ad : Addr} {b : List Nat} {i n : Nat} (h : (nat k).C w (some ad) b.length b) (hi : i + n ≤ b.length) : (nat k).C w (some (ad.add i)) n ((b.drop i).take n) := by
 refine Kd.C_of_reads (d := 0) ⟨by rw [List.length_take, List.length_drop]; omega, by have := h.2.1; omega, fun hp => ⟨_, rfl, fun j hj => ?_⟩⟩
 obtain ⟨ad', e', hc⟩ := C_nat h (i + j) (by omega)
 injection e' with e'
 subst e'
 have e : (ad.add i).add j = ad.add (i + j) := by
  unfold Addr.add
  by_cases h1 : i = 0
  ·subst h1; simp
  ·by_cases h2 : j = 0
   ·subst h2; simp
   ·simp [h1, h2, Nat.add_assoc]
 rw [e, hc]
 have : gt b (i + j) = ((b.drop i).take n).getD j 0 := by unfold gt; rw [List.getD_eq_getElem?_getD, List.getD_eq_getElem?_getD, List.getElem?_take, if_pos hj, List.getElem?_drop]
 rw [this]
theorem C_none {k : IntKind} {w : World} (A : Option Addr) : (nat k).C w A 0 [] := Kd.C_of_reads (d := 0) ⟨rfl, by omega, fun hp => by omega⟩
/-- the next n bytes from i -/
def subN (b : List Nat) (i n : Nat) : List Nat := (b.drop i).take n
theorem subN_length {b : List Nat} {i n : Nat} (h : i + n ≤ b.length) : (subN b i n).length = n := by unfold subN; rw [List.length_take, List.length_drop]; omega
theorem take_short (g o n at_ cap : Nat) (A : Option Addr) (b : List Nat) (w : World) (c0 : w.cell? ⟨g, o, none⟩ = some (.slice A b.length cap)) (c1 : w.cell? ⟨g, o + 1, none⟩ = some (.int .i64 (at_ : Int))) (hat : at_ ≤ b.length) (hl : b.length < 4611686018427387904) (hn : b.length < at_ + n) (hn2 : n < 4611686018427387904) :
    Calls Try.prog 92 #[.pointer (some ⟨g, o, none⟩), .int .i64 (n : Int)] w fun e w' => e = .returned (.tuple #[.slice none 0 0, .bool false]) ∧ Below w.heap.size w w' := by
 have hu119 := Try.underlying119
 have t1 : decide ((b.length : Int) - (at_ : Int) < (n : Int)) = true := decide_eq_true (by omega)
 obtain ⟨d, hd⟩ : ∃ d, d = b.length - at_ := ⟨_, rfl⟩
 have t2 : decide (d < n) = true := decide_eq_true (by omega)
 have a1 : (b.length : Int) - (at_ : Int) = (d : Int) := by omega
 have a2 : d < 4611686018427387904 := by omega
 clear hat hl hn hn2 hd
 have e1 := wrapI a1 a2
 have e2 := wrapJ a1 a2
 clear a1 a2
 go_enter Try.func92, Try.ntmps92
 go_wp2
 go_quiet (fail)
 go_wp2
 go_ret2
 exact ⟨rfl, pw_below_drewN (Below.refl _ _) _⟩
set_option maxHeartbeats 1000000 in
set_option maxRecDepth 100000 in
theorem take_calls (g o n at_ cap : Nat) (ad : Addr) (b : List Nat) (w0 w : World) (hC : (nat .u8).C w0 (some ad) b.length b) (c0 : w.cell? ⟨g, o, none⟩ = some (.slice (some ad) b.length cap)) (c1 : w.cell? ⟨g, o + 1, none⟩ = some (.int .i64 (at_ : Int))) (f1 : w.frozen? ⟨g, o + 1, none⟩ = false) (hcap : b.length ≤ cap) (hat : at_ ≤ b.length) (hl : b.length < 4611686018427387904) (hn : at_ + n ≤ b.length) :
    Calls Try.prog 92 #[.pointer (some ⟨g, o, none⟩), .int .i64 (n : Int)] w fun e w' => ∃ A1 k, e = .returned (.tuple #[.slice A1 n n, .bool true]) ∧ (nat .u8).C w0 A1 n (subN b at_ n) ∧ w' = (w.drewN k).setCell ⟨g, o + 1, none⟩ (.int .i64 ((at_ + n : Nat) : Int)) := by
 have hu119 := Try.underlying119
 obtain ⟨d, hd⟩ : ∃ d, d = b.length - at_ := ⟨_, rfl⟩
 have t2 : decide (d < n) = false := decide_eq_false (by omega)
 obtain ⟨m, hm⟩ : ∃ m, m = at_ + n := ⟨_, rfl⟩
 have HM := Aside0.mk hm
 have HSUB := Aside0.mk (C_sub hC hn)
 rw [← hm]
 have a1 : (b.length : Int) - (at_ : Int) = (d : Int) := by omega
 have a2 : d < 4611686018427387904 := by omega
 have a3 : (at_ : Int) + (n : Int) = (m : Int) := by omega
 have a4 : m < 4611686018427387904 := by omega
 have i1 : m ≤ cap := by omega
 have i2 : at_ ≤ m := by omega
 have i3 : (m : Int) ≤ (cap : Int) := by omega
 have i4 : (at_ : Int) ≤ (m : Int) := by omega
 clear hat hl hn hd hm hC
 have e1 := wrapI a1 a2
 have e2 := wrapJ a1 a2
 have e3 := wrapI a3 a4
 have e4 := wrapJ a3 a4
 clear a1 a2 a3 a4
 go_enter Try.func92, Try.ntmps92
 go_wp2
 repeat (go_quiet (fail); try go_wp2)
 ·go_ret2
  rename_i h
  have hn0 : n = 0 := by have := HM.out; omega
  subst hn0
  exact ⟨some ad, rfl, by rw [show subN b at_ 0 = [] by simp [subN]]; exact C_none _, ⟨_, rfl⟩⟩
 ·go_ret2
  have hmn : m - at_ = n := by have := HM.out; omega
  exact ⟨some (ad.add at_), by rw [hmn]; rfl, HSUB.out, ⟨_, rfl⟩⟩
theorem subN_lt {b : List Nat} {i n : Nat} (h : ∀ i, gt b i < 256) : ∀ j, gt (subN b i n) j < 256 := by
 refine gt_lt_of (by decide) (fun x hx => ?_)
 exact mem_lt_of h x (List.mem_of_mem_drop (List.mem_of_mem_take hx))
set_option maxHeartbeats 1000000 in
set_option maxRecDepth 100000 in
theorem num_calls (g cap i m : Nat) (ad : Addr) (b : List Nat) (w : World) (hg : w.cell? ⟨g, 0, none⟩ = some (.slice (some ad) b.length cap)) (hC : (nat .u8).C w (some ad) b.length b) (hcap : b.length ≤ cap) (h8 : ∀ i, gt b i < 256) (him : i < m) (hm : m ≤ b.length) (h6 : m - i ≤ 6) :
    Calls Try.prog 93 #[.int .i64 (i : Int), .int .i64 (m : Int), .pointer (some ⟨g, 0, none⟩)] w fun e w' => e = .returned (.int .i64 ((numL 0 (subN b i (m - i)) : Nat) : Int)) ∧ Below w.heap.size w w' := by
 have i1 : m ≤ cap := by omega
 have i2 : i ≤ m := by omega
 have i3 : (m : Int) ≤ (cap : Int) := by omega
 have i4 : (i : Int) ≤ (m : Int) := by omega
 have i5 : ¬ (m - i = 0) := by omega
 have i6 : ¬ (m = i) := by omega
 have i7 : ¬ (cap = i) := by omega
 have i8 : ¬ (cap - i = 0) := by omega
 have hl : (subN b i (m - i)).length = m - i := subN_length (by omega)
 have HN := Aside0.mk (number_own (A := some (ad.add i)) (c := cap - i) (l := subN b i (m - i)) (w := w) (by rw [hl]; exact C_sub hC (by omega)) (by rw [hl]; omega) (by rw [hl]; exact h6) (subN_lt h8))
 rw [hl] at HN
 clear hl hcap him hm h6 hC
 go_enter Try.func93, Try.ntmps93
 go_wp2_with (go_at_call 94; refine HN.out.mono ?_; rintro e w2 ⟨rfl, hb⟩; have B2 := Aside0.mk hb; clear hb)
 go_ret
 exact ⟨rfl, B2.out⟩
end Go.Proofs.Ytbbebhdcfopmmaa.A
end
section
set_option linter.unusedVariables false
set_option linter.unusedSimpArgs false
namespace Go.Proofs.Ytbbebhdcfopmmaa.A
open Go.RowKit Go.Proofs.YtbbebhdcfopmmaaW.PrintWords Go.Proofs.YtbbebhdcfopmmaaW.PrintLast Go.Proofs.YtbbebhdcfopmmaaW.PrintMore Go.Proofs.Ytbbebhdcfopmmaa.PCodecNames

/-- a slice's header -/
abbrev Hd := Option Addr × Nat × Nat
def Hd.v (h : Hd) : Value := .slice h.1 h.2.1 h.2.2
def hdr : Kd Hd := Kd.scalar (fun h : Hd => h.v) (fun _ => rfl)
/-- a plane's three cells, its samples' row aside -/
def pk : Kd (Nat × Nat × Hd) := Kd.pair (nat .i64) (Kd.pair (nat .i64) hdr)
theorem pk_M {w : World} {B : Nat} {ok : Nat → Prop} (x y : Nat) (h : Hd) : pk.M w B ok (x, y, h) [.int .i64 (x : Int), .int .i64 (y : Int), h.v] := ⟨[.int .i64 (x : Int)], [.int .i64 (y : Int), h.v], rfl, rfl, ⟨[.int .i64 (y : Int)], [h.v], rfl, rfl, rfl⟩⟩
theorem infoPl : (Try.prog.info? 31).map (fun i => (i.zero, i.size, i.bytes)) = some (some (.agg #[.int .i64 0, .int .i64 0, .slice none 0 0]), 3, 40) := by kernel_rfl
theorem pk_move {W W1 : World} {B : Nat} {ok : Nat → Prop} {v : Value} {xs : List (Nat × Nat × Hd)} (h : pk.R 31 W B ok v xs) (hm : ∀ k, v.ownBlock = some k → W1.heap[k]? = W.heap[k]?) : pk.R 31 W1 B ok v xs := by
 obtain ⟨h0, inner, hown, hr⟩ := h
 refine ⟨h0, inner, own_move hown hm, hr.imp_ (fun x cs hx => ?_)⟩
 obtain ⟨c0, c1, rfl, e0, ⟨c2, c3, rfl, e1, e2⟩⟩ := hx
 exact ⟨c0, c2 ++ c3, rfl, e0, ⟨c2, c3, rfl, e1, e2⟩⟩
theorem pk_self {W : World} {B : Nat} {ok : Nat → Prop} {v : Value} {xs : List (Nat × Nat × Hd)} (h : pk.R 31 W B ok v xs) : pk.R 31 W B (fun k => v.ownBlock = some k) v xs := by
 obtain ⟨h0, inner, hown, hr⟩ := h
 refine ⟨fun k hk => hk, inner, hown, hr.imp_ (fun x cs hx => ?_)⟩
 obtain ⟨c0, c1, rfl, e0, ⟨c2, c3, rfl, e1, e2⟩⟩ := hx
 exact ⟨c0, c2 ++ c3, rfl, e0, ⟨c2, c3, rfl, e1, e2⟩⟩
theorem nat_self {k : IntKind} {e : TypeId} {W : World} {B : Nat} {ok : Nat → Prop} {v : Value} {xs : List Nat} (h : (nat k).R e W B ok v xs) : (nat k).R e W B (fun j => v.ownBlock = some j) v xs := Kd.R_of_own (Kd.own_of_R h) (fun _ hk => hk)
theorem nat_move {k : IntKind} {e : TypeId} {W W1 : World} {B : Nat} {ok : Nat → Prop} {v : Value} {xs : List Nat} (h : (nat k).R e W B ok v xs) (hm : ∀ j, v.ownBlock = some j → W1.heap[j]? = W.heap[j]?) : (nat k).R e W1 B ok v xs := Kd.R_of_own (own_move (Kd.own_of_R h) hm) h.1
/-- a picture in memory of one's own: no two planes share a row -/
structure PicOwn (B : Nat) (W : World) (vp : Value) (w h : Nat) (hs : List Hd) (ss : List (List Nat)) : Prop where
 row : pk.R 31 W B (fun k => vp.ownBlock = some k) vp (hs.map fun x => (w, h, x))
 len : hs.length = ss.length
 pls : ∀ k (h1 : k < hs.length), (nat .u32).R 24 W B (fun j => (hs[k]).v.ownBlock = some j) (hs[k]).v (ss.getD k [])
 ap : ∀ i j (h1 : i < hs.length) (h2 : j < hs.length), i ≠ j → ApartV (hs[i]).v (hs[j]).v
section
variable {B : Nat} {W W1 : World} {vp : Value} {w h : Nat} {hs : List Hd} {ss : List (List Nat)}
theorem PicOwn.move (H : PicOwn B W vp w h hs ss) (h1 : ∀ k, vp.ownBlock = some k → W1.heap[k]? = W.heap[k]?) (h2 : ∀ i (hi : i < hs.length) k, (hs[i]).v.ownBlock = some k → W1.heap[k]? = W.heap[k]?) : PicOwn B W1 vp w h hs ss :=
 ⟨pk_move H.row h1, H.len, fun k hk => nat_move (H.pls k hk) (h2 k hk), H.ap⟩
theorem PicOwn.row_lt (H : PicOwn B W vp w h hs ss) {k : Nat} (hk : vp.ownBlock = some k) : B ≤ k ∧ k < W.heap.size ∧ ∃ cells, W.heap[k]? = some (.cells cells 31 (0, 0)) := by
 obtain ⟨h0, inner, hown, hr⟩ := H.row
 obtain ⟨cs, hc⟩ := own_typed hown k hk
 have := (Kd.R_bound H.row).1 k hk
 exact ⟨this.2.1, this.2.2.1, cs, hc⟩
theorem PicOwn.pl_lt (H : PicOwn B W vp w h hs ss) {i : Nat} (hi : i < hs.length) {k : Nat} (hk : (hs[i]).v.ownBlock = some k) : B ≤ k ∧ k < W.heap.size ∧ ∃ cells, W.heap[k]? = some (.cells cells 24 (0, 0)) := by
 obtain ⟨cs, hc⟩ := own_typed (Kd.own_of_R (H.pls i hi)) k hk
 have := (Kd.R_bound (H.pls i hi)).1 k hk
 exact ⟨this.2.1, this.2.2.1, cs, hc⟩
theorem PicOwn.below (H : PicOwn B W vp w h hs ss) (hb : Below W.heap.size W W1) : PicOwn B W1 vp w h hs ss :=
 H.move (fun k hk => hb.block k (H.row_lt hk).2.1) (fun i hi k hk => hb.block k (H.pl_lt hi hk).2.1)
theorem PicOwn.keep (H : PicOwn B W vp w h hs ss) {g : Nat} (hst : ∀ k, k ≠ g → W1.heap[k]? = W.heap[k]?) (h1 : ¬ vp.ownBlock = some g) (h2 : ∀ i (hi : i < hs.length), ¬ (hs[i]).v.ownBlock = some g) : PicOwn B W1 vp w h hs ss :=
 H.move (fun k hk => hst k (fun e => h1 (e ▸ hk))) (fun i hi k hk => hst k (fun e => h2 i hi (e ▸ hk)))
theorem PicOwn.ne_row (H : PicOwn B W vp w h hs ss) {g : Nat} {cs : Array Value} {t : TypeId} (hg : W.heap[g]? = some (.cells cs t (0, 0))) (ht : t ≠ 31) : ¬ vp.ownBlock = some g := fun e => by
 obtain ⟨_, _, cells, hc⟩ := H.row_lt e
 rw [hg] at hc
 injection hc with hc
 injection hc with _ h2
 exact ht h2
theorem PicOwn.ne_pl (H : PicOwn B W vp w h hs ss) {g : Nat} {cs : Array Value} {t : TypeId} (hg : W.heap[g]? = some (.cells cs t (0, 0))) (ht : t ≠ 24) : ∀ i (hi : i < hs.length), ¬ (hs[i]).v.ownBlock = some g := fun i hi e => by
 obtain ⟨_, _, cells, hc⟩ := H.pl_lt hi e
 rw [hg] at hc
 injection hc with hc
 injection hc with _ h2
 exact ht h2
theorem PicOwn.nil (B : Nat) (W : World) (w h : Nat) : PicOwn B W (.slice none 0 0) w h [] [] := ⟨Kd.R_nil _ _ _ _ _, rfl, fun k hk => absurd hk (Nat.not_lt_zero _), fun i j hi => absurd hi (Nat.not_lt_zero _)⟩
end

theorem put2 {w3 w4 : World} {g : Nat} {t : TypeId} {a b x y : Value} (hP : w3.heap[g]? = some (.cells #[a, b] t (0, 0))) (h : w4 = (w3.setCell ⟨g, 0, none⟩ x).setCell ⟨g, 1, none⟩ y) :
    w4.heap[g]? = some (.cells #[x, y] t (0, 0)) ∧ (∀ k, k ≠ g → w4.heap[k]? = w3.heap[k]?) ∧ (∀ B, B ≤ g → Below B w3 w4) := by
 subst h
 refine ⟨(blk_set ((blk_set hP 0 x).trans rfl) 1 y).trans rfl, fun k hk => ?_, fun B hB => ?_⟩
 ·exact (Below.heap_setCell _ _ _ k hk).trans (Below.heap_setCell _ _ _ k hk)
 ·exact ((Below.refl B w3).setCell (p := ⟨g, 0, none⟩) hB x).setCell (p := ⟨g, 1, none⟩) hB y
set_option maxHeartbeats 2000000 in
set_option maxRecDepth 100000 in
theorem New_form (sp x y : Int) (n s : Nat) (w : World) (hn : n < 1 ∨ 4 < n) :
    Calls Try.prog 76 #[.int .i64 sp, .int .i64 (n : Int), .int .i64 x, .int .i64 y, .int .u32 (s : Int)] w fun e w' => e = .returned (.tuple #[.agg #[.int .i64 0, .slice none 0 0], .int .i64 80]) ∧ Below w.heap.size w w' := by
 have hu47 := Try.underlying47
 by_cases h0 : n < 1
 ·have t1 : decide ((n : Int) < 1) = true := decide_eq_true (by omega)
  have t2 : decide (n < 1) = true := decide_eq_true h0
  have t3 : (n == 0) = true := by rw [beq_iff_eq]; omega
  obtain rfl : n = 0 := by omega
  clear hn h0
  go_enter Try.func76, Try.ntmps76
  go_wp2_with (((with_reducible refine gate_dst (N := 10) rfl ?_); refine box_event ?hg (N := 10) ?hd (cs := #[.int .i64 0, .slice none 0 0]) (t := 47) ?hr ?_; (case hd => rfl); (case hg => rfl); (case hr => first | (go_simp; done) | (go_simp; rfl)); intro gR hg_ w1 hm_ hb_; have R1 := Aside0.mk (hm_); have B1 := Aside0.mk (hb_); have GR := Aside0.mk (show w.heap.size ≤ gR by rw [hg_]; exact Nat.le_refl _); have o0 := (blk_cell R1.out 0).trans rfl; have o1 := (blk_cell R1.out 1).trans rfl; have fo0 := blk_frozen R1.out 0; have fo1 := blk_frozen R1.out 1; clear hm_ hb_ hg_))
  obtain ⟨w9, hw9⟩ : ∃ w9, w9 = (w1.setCell ⟨gR, 0, none⟩ (.int .i64 0)).setCell ⟨gR, 1, none⟩ (.slice none 0 0) := ⟨_, rfl⟩
  rw [← hw9]
  obtain ⟨hG9, hst9, hbl9⟩ := put2 R1.out hw9
  refine bodyPost_ret (results_ct rfl _ _ gR 47 #[.int .i64 0, .slice none 0 0] (0, 0) _ rfl hG9 Try.underlying47 rfl (by kernel_rfl)) rfl ?_
  exact ⟨rfl, B1.out.trans (hbl9 _ GR.out)⟩
 ·have t1 : decide ((n : Int) < 1) = false := decide_eq_false (by omega)
  have t2 : decide (n < 1) = false := decide_eq_false h0
  have t4 : decide ((n : Int) > 4) = true := decide_eq_true (by omega)
  have t5 : decide (4 < n) = true := decide_eq_true (by omega)
  have t6 : decide (4 < (n : Int)) = true := decide_eq_true (by omega)
  clear hn h0
  go_enter Try.func76, Try.ntmps76
  go_wp2_with (((with_reducible refine gate_dst (N := 10) rfl ?_); refine box_event ?hg (N := 10) ?hd (cs := #[.int .i64 0, .slice none 0 0]) (t := 47) ?hr ?_; (case hd => rfl); (case hg => rfl); (case hr => first | (go_simp; done) | (go_simp; rfl)); intro gR hg_ w1 hm_ hb_; have R1 := Aside0.mk (hm_); have B1 := Aside0.mk (hb_); have GR := Aside0.mk (show w.heap.size ≤ gR by rw [hg_]; exact Nat.le_refl _); have o0 := (blk_cell R1.out 0).trans rfl; have o1 := (blk_cell R1.out 1).trans rfl; have fo0 := blk_frozen R1.out 0; have fo1 := blk_frozen R1.out 1; clear hm_ hb_ hg_))
  obtain ⟨w9, hw9⟩ : ∃ w9, w9 = (w1.setCell ⟨gR, 0, none⟩ (.int .i64 0)).setCell ⟨gR, 1, none⟩ (.slice none 0 0) := ⟨_, rfl⟩
  rw [← hw9]
  obtain ⟨hG9, hst9, hbl9⟩ := put2 R1.out hw9
  refine bodyPost_ret (results_ct rfl _ _ gR 47 #[.int .i64 0, .slice none 0 0] (0, 0) _ rfl hG9 Try.underlying47 rfl (by kernel_rfl)) rfl ?_
  exact ⟨rfl, B1.out.trans (hbl9 _ GR.out)⟩

set_option maxHeartbeats 2000000 in
set_option maxRecDepth 100000 in
theorem New_size (sp x y : Int) (n s : Nat) (w : World) (hn : 1 ≤ n) (hn4 : n ≤ 4) (hs : sizeB x y = false) :
    Calls Try.prog 76 #[.int .i64 sp, .int .i64 (n : Int), .int .i64 x, .int .i64 y, .int .u32 (s : Int)] w fun e w' => e = .returned (.tuple #[.agg #[.int .i64 0, .slice none 0 0], .int .i64 50]) ∧ Below w.heap.size w w' := by
 have hu47 := Try.underlying47
 have hu31 := Try.underlying31
 have t1 : decide ((n : Int) < 1) = false := decide_eq_false (by omega)
 have t2 : decide (n < 1) = false := decide_eq_false (by omega)
 have t5 : decide (4 < n) = false := decide_eq_false (by omega)
 have t6 : decide (4 < (n : Int)) = false := decide_eq_false (by omega)
 have t7 : decide (0 < n) = true := decide_eq_true (by omega)
 have t8 : decide (0 < (n : Int)) = true := decide_eq_true (by omega)
 have t9 : (n == 0) = false := by rw [beq_eq_false_iff_ne]; omega
 have HS := Aside0.mk hs
 clear hn hn4 hs
 go_enter Try.func76, Try.ntmps76
 go_wp2_with (first | ((with_reducible refine gate_dst (N := 10) rfl ?_); refine box_event ?hg (N := 10) ?hd (cs := #[.int .i64 0, .slice none 0 0]) (t := 47) ?hr ?_; (case hd => rfl); (case hg => rfl); (case hr => first | (go_simp; done) | (go_simp; rfl)); intro gR hg_ w1 hm_ hb_; have R1 := Aside0.mk (hm_); have B1 := Aside0.mk (hb_); have GR := Aside0.mk (show w.heap.size ≤ gR by rw [hg_]; exact Nat.le_refl _); clear hm_ hb_ hg_) | ((with_reducible refine gate_dst (N := 12) rfl ?_); refine box_event ?hg (N := 12) ?hd (cs := #[.int .i64 0, .slice none 0 0]) (t := 47) ?hr ?_; (case hd => rfl); (case hg => rfl); (case hr => first | (go_simp; done) | (go_simp; rfl)); intro gO hg_ w2 hm_ hb_; have R2 := Aside0.mk (blk_below R1.out hb_); have O2 := Aside0.mk (hm_); have B2 := Aside0.mk (below_step B1.out hb_); have GO := Aside0.mk (show w.heap.size ≤ gO by rw [hg_]; exact below_size B1.out); have NOR := Aside0.mk (show gO ≠ gR by rw [hg_]; have := blk_lt R1.out; omega); have o0 := (blk_cell O2.out 0).trans rfl; have o1 := (blk_cell O2.out 1).trans rfl; have fo0 := blk_frozen O2.out 0; have fo1 := blk_frozen O2.out 1; clear hm_ hb_ hg_))
 obtain ⟨w3, hw3⟩ : ∃ w3, w3 = (w2.setCell ⟨gO, 0, none⟩ (.int .i64 sp)).setCell ⟨gO, 1, none⟩ (.slice none 0 0) := ⟨_, rfl⟩
 rw [← hw3]
 obtain ⟨hG3, hst3, hbl3⟩ := put2 O2.out hw3
 have R3 := Aside0.mk ((hst3 gR (fun e => NOR.out e.symm)).trans R2.out)
 have B3 := Aside0.mk (B2.out.trans (hbl3 _ GO.out))
 clear hG3 hst3 hbl3 hw3 o0 o1 fo0 fo1
 go_loopw [26] (fun v W => v = .int .i64 0 ∧ Aside0 (W.heap[gR]? = some (.cells #[.int .i64 0, .slice none 0 0] 47 (0, 0))) ∧ Aside0 (Below w.heap.size w W)) (fun _ _ => 0)
 case atStart => exact ⟨rfl, R3, B3⟩
 case round =>
  clear R3 B3 R2 B2 O2
  obtain ⟨rfl, R3, B3⟩ := hrel
  go_wp2_with (first | (go_at_call 96; refine (New_calls x y s _).mono ?_; rw [HS.out]; rintro e w4 ⟨v, rfl, hR, hb⟩; obtain ⟨Av, cv, rfl⟩ := Kd.R_slice hR; have R4 := Aside0.mk (blk_below R3.out hb); have B4 := Aside0.mk (below_step B3.out hb); clear hR hb) | ((with_reducible refine gate_dst (N := 13) rfl ?_); refine box_event ?hg (N := 13) ?hd (cs := #[.int .i64 0, .int .i64 0, .slice none 0 0]) (t := 31) ?hr ?_; (case hd => rfl); (case hg => rfl); (case hr => first | (go_simp; done) | (go_simp; rfl)); intro gq hg_ w5 hm_ hb_; have R5 := Aside0.mk (blk_below R4.out hb_); have Q5 := Aside0.mk (hm_); have B5 := Aside0.mk (below_step B4.out hb_); have GQ := Aside0.mk (show w.heap.size ≤ gq by rw [hg_]; exact below_size B4.out); have NQR := Aside0.mk (blk_ne R5.out Q5.out (by decide)); have q0 := (blk_cell Q5.out 0).trans rfl; have q1 := (blk_cell Q5.out 1).trans rfl; have q2 := (blk_cell Q5.out 2).trans rfl; have fq0 := blk_frozen Q5.out 0; have fq1 := blk_frozen Q5.out 1; have fq2 := blk_frozen Q5.out 2; have R6 := Aside0.mk (show (((w5.setCell ⟨gq, 0, none⟩ (.int .i64 0)).setCell ⟨gq, 1, none⟩ (.int .i64 0)).setCell ⟨gq, 2, none⟩ (.slice Av 0 cv)).heap[gR]? = some (.cells #[.int .i64 0, .slice none 0 0] 47 (0, 0)) from ((put3 Q5.out rfl).2.1 gR NQR.out).trans R5.out); have B6 := Aside0.mk (show Below w.heap.size w (((w5.setCell ⟨gq, 0, none⟩ (.int .i64 0)).setCell ⟨gq, 1, none⟩ (.int .i64 0)).setCell ⟨gq, 2, none⟩ (.slice Av 0 cv)) from B5.out.trans ((put3 Q5.out rfl).2.2 _ GQ.out)); have o0 := (blk_cell R6.out 0).trans rfl; have o1 := (blk_cell R6.out 1).trans rfl; have fo0 := blk_frozen R6.out 0; have fo1 := blk_frozen R6.out 1; clear hm_ hb_ hg_))
  obtain ⟨w6, hw6⟩ : ∃ w6, w6 = (((w5.setCell ⟨gq, 0, none⟩ (.int .i64 0)).setCell ⟨gq, 1, none⟩ (.int .i64 0)).setCell ⟨gq, 2, none⟩ (.slice Av 0 cv)) := ⟨_, rfl⟩
  rw [← hw6] at R6 B6 ⊢
  clear hw6 o0 o1 fo0 fo1
  obtain ⟨w9, hw9⟩ : ∃ w9, w9 = (w6.setCell ⟨gR, 0, none⟩ (.int .i64 0)).setCell ⟨gR, 1, none⟩ (.slice none 0 0) := ⟨_, rfl⟩
  rw [← hw9]
  obtain ⟨hG9, hst9, hbl9⟩ := put2 R6.out hw9
  refine bodyPost_ret (results_ct rfl _ _ gR 47 #[.int .i64 0, .slice none 0 0] (0, 0) _ rfl hG9 Try.underlying47 rfl (by kernel_rfl)) rfl ?_
  exact ⟨rfl, B6.out.trans (hbl9 _ GR.out)⟩

section
variable {B : Nat} {W W1 : World} {vp : Value} {w h : Nat} {hs : List Hd} {ss : List (List Nat)}
theorem PicOwn.push (H : PicOwn B W vp w h hs ss) (x : Hd) (zs : List Nat) {ok : Nat → Prop} (hx : (nat .u32).R 24 W B ok x.v zs) (hap : ∀ k (hk : k < hs.length), ApartV (hs[k]).v x.v) {v1 : Value} {ok1 : Nat → Prop} (hR : pk.R 31 W1 B ok1 v1 ((hs.map fun x => (w, h, x)) ++ [(w, h, x)])) (hg : W.grownBy W1 vp.ownBlock) :
    PicOwn B W1 v1 w h (hs ++ [x]) (ss ++ [zs]) := by
 have hne : ∀ k (cs : Array Value), W.heap[k]? = some (Obj.cells cs 24 (0, 0)) → W1.heap[k]? = W.heap[k]? := fun k cs hc => hg.block k (blk_lt hc) (fun e => by
  obtain ⟨_, _, cells, hc2⟩ := H.row_lt e.symm
  rw [hc] at hc2
  injection hc2 with hc2
  injection hc2 with _ h2
  exact absurd h2 (by decide))
 have hxt : ∀ j, x.v.ownBlock = some j → W1.heap[j]? = W.heap[j]? := fun j hj => by
  obtain ⟨cs, hc⟩ := own_typed (Kd.own_of_R hx) j hj
  exact hne j cs hc
 refine ⟨pk_self (by rw [List.map_append]; exact hR), by simp [H.len], fun k hk => ?_, fun i j h1 h2 hij => ?_⟩
 ·by_cases hkl : k < hs.length
  ·have e1 : (hs ++ [x])[k] = hs[k] := List.getElem_append_left hkl
   have e2 : (ss ++ [zs]).getD k [] = ss.getD k [] := by
    rw [List.getD_eq_getElem?_getD, List.getD_eq_getElem?_getD, List.getElem?_append_left (by rw [← H.len]; exact hkl)]
   rw [e1, e2]
   exact nat_move (H.pls k hkl) (fun j hj => by obtain ⟨_, _, cs, hc⟩ := H.pl_lt hkl hj; exact hne j cs hc)
  ·have hk' : k = hs.length := by simp at hk; omega
   subst hk'
   have e1 : (hs ++ [x])[hs.length] = x := by simp
   have e2 : (ss ++ [zs]).getD hs.length [] = zs := by rw [H.len]; simp
   rw [e1, e2]
   exact nat_self (nat_move hx hxt)
 ·by_cases hi : i < hs.length
  ·by_cases hj : j < hs.length
   ·rw [List.getElem_append_left hi, List.getElem_append_left hj]; exact H.ap i j hi hj hij
   ·have hj' : j = hs.length := by simp at h2; omega
    subst hj'
    have e1 : (hs ++ [x])[hs.length] = x := by simp
    rw [List.getElem_append_left hi, e1]; exact hap i hi
  ·have hi' : i = hs.length := by simp at h1; omega
   subst hi'
   have hj : j < hs.length := by simp at h2; omega
   have e1 : (hs ++ [x])[hs.length] = x := by simp
   rw [List.getElem_append_left hj, e1]
   exact fun k hk he => hap j hj k he hk
end
set_option maxHeartbeats 4000000 in
set_option maxRecDepth 100000 in
theorem New_main (sp : Int) (n s W H : Nat) (w : World) (hn : 1 ≤ n) (hn4 : n ≤ 4) (hs : sizeB (W : Int) (H : Int) = true) :
    Calls Try.prog 76 #[.int .i64 sp, .int .i64 (n : Int), .int .i64 (W : Int), .int .i64 (H : Int), .int .u32 (s : Int)] w fun e w' => (∃ vp, e = .returned (.tuple #[.agg #[.int .i64 (if spaceE sp n = 0 then sp else 0), vp], .int .i64 ((spaceE sp n : Nat) : Int)]) ∧ (spaceE sp n = 0 → ∃ hs, PicOwn w.heap.size w' vp W H hs (List.replicate n (List.replicate (W * H) s))) ∧ (spaceE sp n ≠ 0 → vp = .slice none 0 0)) ∧ Below w.heap.size w w' := by
 have hu47 := Try.underlying47
 have hu31 := Try.underlying31
 have t1 : decide ((n : Int) < 1) = false := decide_eq_false (by omega)
 have t2 : decide (n < 1) = false := decide_eq_false (by omega)
 have t5 : decide (4 < n) = false := decide_eq_false (by omega)
 have t6 : decide (4 < (n : Int)) = false := decide_eq_false (by omega)
 have t9 : (n == 0) = false := by rw [beq_eq_false_iff_ne]; omega
 have HS := Aside0.mk hs
 obtain ⟨b1, b2, b3, b4, b5⟩ := sizeB_true hs
 obtain ⟨zs, hzs⟩ : ∃ zs, zs = List.replicate (W * H) s := ⟨_, rfl⟩
 have HZS := Aside0.mk hzs
 have HZ2 : Aside0 (List.replicate ((W : Int) * (H : Int)).toNat s = zs) := ⟨by rw [hzs, ← Int.natCast_mul, Int.toNat_natCast]⟩
 have HE := Aside0.mk (spaceE_f sp n)
 obtain ⟨z, hz⟩ : ∃ z, z = spaceE sp n := ⟨_, rfl⟩
 rw [← hz] at HE
 rw [← hz, ← hzs]
 clear hs hzs hz b1 b2 b3 b4 b5
 go_enter Try.func76, Try.ntmps76
 go_wp2_with (first | ((with_reducible refine gate_dst (N := 10) rfl ?_); refine box_event ?hg (N := 10) ?hd (cs := #[.int .i64 0, .slice none 0 0]) (t := 47) ?hr ?_; (case hd => rfl); (case hg => rfl); (case hr => first | (go_simp; done) | (go_simp; rfl)); intro gR hg_ w1 hm_ hb_; have R1 := Aside0.mk (hm_); have B1 := Aside0.mk (hb_); have GR := Aside0.mk (show w.heap.size ≤ gR by rw [hg_]; exact Nat.le_refl _); clear hm_ hb_ hg_) | ((with_reducible refine gate_dst (N := 12) rfl ?_); refine box_event ?hg (N := 12) ?hd (cs := #[.int .i64 0, .slice none 0 0]) (t := 47) ?hr ?_; (case hd => rfl); (case hg => rfl); (case hr => first | (go_simp; done) | (go_simp; rfl)); intro gO hg_ w2 hm_ hb_; have R2 := Aside0.mk (blk_below R1.out hb_); have O2 := Aside0.mk (hm_); have B2 := Aside0.mk (below_step B1.out hb_); have GO := Aside0.mk (show w.heap.size ≤ gO by rw [hg_]; exact below_size B1.out); have NOR := Aside0.mk (show gO ≠ gR by rw [hg_]; have := blk_lt R1.out; omega); have o0 := (blk_cell O2.out 0).trans rfl; have o1 := (blk_cell O2.out 1).trans rfl; have fo0 := blk_frozen O2.out 0; have fo1 := blk_frozen O2.out 1; clear hm_ hb_ hg_))
 obtain ⟨w3, hw3⟩ : ∃ w3, w3 = (w2.setCell ⟨gO, 0, none⟩ (.int .i64 sp)).setCell ⟨gO, 1, none⟩ (.slice none 0 0) := ⟨_, rfl⟩
 rw [← hw3]
 obtain ⟨hG3, hst3, hbl3⟩ := put2 O2.out hw3
 have O3 := Aside0.mk hG3
 have R3 := Aside0.mk ((hst3 gR (fun e => NOR.out e.symm)).trans R2.out)
 have B3 := Aside0.mk (B2.out.trans (hbl3 _ GO.out))
 clear hG3 hst3 hbl3 hw3 o0 o1 fo0 fo1 R2 B2 O2
 go_loopw [26] (fun v W' => ∃ (i : Nat) (Ap : Option Addr) (cp : Nat) (hs : List Hd), i ≤ n ∧ v = .int .i64 (i : Int) ∧ Aside0 (hs.length = i) ∧ Aside0 (W'.heap[gO]? = some (.cells #[.int .i64 sp, .slice Ap i cp] 47 (0, 0))) ∧ Aside0 (W'.heap[gR]? = some (.cells #[.int .i64 0, .slice none 0 0] 47 (0, 0))) ∧ Aside0 (PicOwn w.heap.size W' (.slice Ap i cp) W H hs (List.replicate i zs)) ∧ Aside0 (Below w.heap.size w W')) (fun v _ => n - (intOf v).toNat)
 case atStart => exact ⟨0, none, 0, [], Nat.zero_le _, rfl, ⟨rfl⟩, O3, R3, ⟨PicOwn.nil _ _ _ _⟩, B3⟩
 case round =>
  clear O3 R3 B3
  obtain ⟨i, Ap, cp, hs, hi, rfl, HLI, O3, R3, PO3, B3⟩ := hrel
  by_cases hin : i < n
  ·have c1 : decide ((i : Int) < (n : Int)) = true := decide_eq_true (by omega)
   have c2 : decide (i < n) = true := decide_eq_true hin
   obtain ⟨ys, hys⟩ : ∃ ys, ys = (hs.map fun x => (W, H, x)) ++ [(W, H, ((none, 0, 0) : Hd))] := ⟨_, rfl⟩
   have HLY : Aside0 (((hs.map fun x => (W, H, x)).length + 1) * 40 ≤ 140737488355328) := ⟨by rw [List.length_map, HLI.out]; omega⟩
   clear hys
   go_wp2_with (first | (go_at_call 96; refine (New_calls (W : Int) (H : Int) s _).mono ?_; rw [HS.out]; simp only [if_true]; rw [HZ2.out]; rintro e w4 ⟨v, rfl, hR, hb⟩; obtain ⟨Av, cv, rfl⟩ := Kd.R_slice hR; have R4 := Aside0.mk (blk_below R3.out hb); have O4 := Aside0.mk (blk_below O3.out hb); have PO4 := Aside0.mk (PO3.out.below hb); have V4 := Aside0.mk (Kd.R_lower hR B3.out.size); have HAP := Aside0.mk (fun k (hk : k < hs.length) => (show ApartV (hs[k]).v (Value.slice Av zs.length cv) from fun j hj he => by have h1 := (PO3.out.pl_lt hk hj).2.1; have h2 := ((Kd.R_bound hR).1 j he).2.1; omega)); have B4 := Aside0.mk (below_step B3.out hb); clear hR hb) | ((with_reducible refine gate_dst (N := 13) rfl ?_); refine box_event ?hg (N := 13) ?hd (cs := #[.int .i64 0, .int .i64 0, .slice none 0 0]) (t := 31) ?hr ?_; (case hd => rfl); (case hg => rfl); (case hr => first | (go_simp; done) | (go_simp; rfl)); intro gq hg_ w5 hm_ hb_; have R5 := Aside0.mk (blk_below R4.out hb_); have O5 := Aside0.mk (blk_below O4.out hb_); have PO5 := Aside0.mk (PO4.out.below hb_); have V5 := Aside0.mk (Kd.R_below V4.out hb_); have Q5 := Aside0.mk (hm_); have B5 := Aside0.mk (below_step B4.out hb_); have GQ := Aside0.mk (show w.heap.size ≤ gq by rw [hg_]; exact below_size B4.out); have NQR := Aside0.mk (blk_ne R5.out Q5.out (by decide)); have NQO := Aside0.mk (blk_ne O5.out Q5.out (by decide)); have NQP := Aside0.mk (show ¬ (Value.slice Ap i cp).ownBlock = some gq from fun e => by have h := (PO4.out.row_lt e).2.1; rw [hg_] at h; exact Nat.lt_irrefl _ h); have q0 := (blk_cell Q5.out 0).trans rfl; have q1 := (blk_cell Q5.out 1).trans rfl; have q2 := (blk_cell Q5.out 2).trans rfl; have fq0 := blk_frozen Q5.out 0; have fq1 := blk_frozen Q5.out 1; have fq2 := blk_frozen Q5.out 2; have K6 := Aside0.mk (put3 (x := .int .i64 (W : Int)) (y := .int .i64 (H : Int)) (z := .slice Av zs.length cv) Q5.out rfl); have R6 := Aside0.mk ((K6.out.2.1 gR NQR.out).trans R5.out); have O6 := Aside0.mk ((K6.out.2.1 gO NQO.out).trans O5.out); have PO6 := Aside0.mk (PO5.out.keep K6.out.2.1 NQP.out (PO5.out.ne_pl Q5.out (by decide))); have V6 := Aside0.mk (Kd.R_mono (Kd.R_move (Kd.R_types V5.out Q5.out (by decide)) (fun k hk => K6.out.2.1 k hk.2)) (fun _ _ => trivial)); have B6 := Aside0.mk (B5.out.trans (K6.out.2.2 _ GQ.out)); have g0 := (blk_cell K6.out.1 0).trans rfl; have g1 := (blk_cell K6.out.1 1).trans rfl; have g2 := (blk_cell K6.out.1 2).trans rfl; have h1 := (blk_cell O6.out 1).trans rfl; clear hm_ hb_ hg_) |
    ((with_reducible refine gate_builtin (b := .append) (xs := #[.tmp 40, .tmp 42]) rfl ?_); at_builtin; refine Kd.R_append pk (w0 := w) w.heap.size rfl (.tmp 40) (.tmp 42) 45 31 (.agg #[.int .i64 0, .int .i64 0, .slice none 0 0]) 40 rfl Try.underlying45 infoPl rfl (by decide) (by decide) (.slice Ap i cp) (hs.map fun x => (W, H, x)) (W, H, ((Av, zs.length, cv) : Hd)) [.int .i64 (W : Int), .int .i64 (H : Int), .slice Av zs.length cv] (fun _ => True) (fun _ => False) rfl (by first | rfl | (simp [Act.eval]; done) | (simp [Act.eval]; rfl)) (pk_M W H (Av, zs.length, cv)) (fun _ h => h.elim) (fun _ _ => trivial) (Kd.R_mono PO6.out.row (fun _ _ => trivial)) B6.out (below_size B6.out) HLY.out ?_; intro v8 w8 hR hB hg hat; obtain ⟨A8, c8, e8⟩ := Kd.R_slice hR; rw [show ((hs.map fun x => (W, H, x)) ++ [(W, H, ((Av, zs.length, cv) : Hd))]).length = i + 1 by rw [List.length_append, List.length_map, HLI.out]; rfl] at e8; subst e8; have PO8 := Aside0.mk (PO6.out.push (Av, zs.length, cv) zs V6.out HAP.out hR hg); have B8 := Aside0.mk hB; have O8 := Aside0.mk ((hg.block gO (blk_lt O6.out) (fun e => PO6.out.ne_row O6.out (by decide) e.symm)).trans O6.out); have R8 := Aside0.mk ((hg.block gR (blk_lt R6.out) (fun e => PO6.out.ne_row R6.out (by decide) e.symm)).trans R6.out); have o1 := (blk_cell O8.out 1).trans rfl; have fo1 := blk_frozen O8.out 1; clear hR hB hg hat))
   obtain ⟨w10, hw10⟩ : ∃ w10, w10 = w8.setCell ⟨gO, 1, none⟩ (.slice A8 (i + 1) c8) := ⟨_, rfl⟩
   rw [← hw10]
   have st10 : ∀ k, k ≠ gO → w10.heap[k]? = w8.heap[k]? := by rw [hw10]; exact fun k hk => Below.heap_setCell _ _ _ k hk
   have O10 : Aside0 (w10.heap[gO]? = some (.cells #[.int .i64 sp, .slice A8 (i + 1) c8] 47 (0, 0))) := ⟨by rw [hw10]; exact (blk_set O8.out 1 _).trans rfl⟩
   have R10 : Aside0 (w10.heap[gR]? = some (.cells #[.int .i64 0, .slice none 0 0] 47 (0, 0))) := ⟨(st10 gR (fun e => NOR.out e.symm)).trans R8.out⟩
   have PO10 : Aside0 (PicOwn w.heap.size w10 (.slice A8 (i + 1) c8) W H (hs ++ [((Av, zs.length, cv) : Hd)]) (List.replicate (i + 1) zs)) := ⟨by rw [List.replicate_succ']; exact PO8.out.keep st10 (PO8.out.ne_row O8.out (by decide)) (PO8.out.ne_pl O8.out (by decide))⟩
   have B10 : Aside0 (Below w.heap.size w w10) := ⟨by rw [hw10]; exact B8.out.setCell (p := ⟨gO, 1, none⟩) GO.out _⟩
   have HL10 : Aside0 ((hs ++ [((Av, zs.length, cv) : Hd)]).length = i + 1) := ⟨by rw [List.length_append, HLI.out]; rfl⟩
   first
    | exact ⟨⟨i + 1, A8, c8, _, by omega, by go_num, HL10, O10, R10, PO10, B10⟩, by simp [intOf]; omega⟩
    | (refine ⟨?_, ?_⟩; exact ⟨i + 1, A8, c8, _, by omega, by go_num, HL10, O10, R10, PO10, B10⟩; simp [intOf]; omega)
  ·obtain rfl : i = n := by omega
   have c1 : decide ((i : Int) < (i : Int)) = false := decide_eq_false (by omega)
   have p0 := (blk_cell O3.out 0).trans rfl
   have p1 := (blk_cell O3.out 1).trans rfl
   have r0 := (blk_cell R3.out 0).trans rfl
   have r1 := (blk_cell R3.out 1).trans rfl
   have fr0 := blk_frozen R3.out 0
   have fr1 := blk_frozen R3.out 1
   by_cases hz0 : z = 0
   ·subst hz0
    go_wp2_with (go_at_call 84; refine (picture_spaceOf.calls sp (i : Int) 0 _ HE.out).mono ?_; rintro e w4 ⟨rfl, hd⟩; obtain ⟨nd, rfl⟩ := hd.out; clear hd)
    obtain ⟨w9, hw9⟩ : ∃ w9, w9 = ((wr.drewN nd).setCell ⟨gR, 0, none⟩ (.int .i64 sp)).setCell ⟨gR, 1, none⟩ (.slice Ap i cp) := ⟨_, rfl⟩
    rw [← hw9]
    obtain ⟨hG9, hst9, hbl9⟩ := put2 (blk_drewN R3.out nd) hw9
    have PO4 := PO3.out.below (pw_below_drewN (Below.refl _ _) nd)
    refine bodyPost_ret (results_ct rfl _ _ gR 47 #[.int .i64 sp, .slice Ap i cp] (0, 0) _ rfl hG9 Try.underlying47 rfl (by kernel_rfl)) rfl ?_
    have PO9 := PO4.keep hst9 (PO4.ne_row (blk_drewN R3.out nd) (by decide)) (PO4.ne_pl (blk_drewN R3.out nd) (by decide))
    exact ⟨⟨_, rfl, hs, PO9⟩, (pw_below_drewN B3.out nd).trans (hbl9 _ GR.out)⟩
   ·have tz : ((z : Int) != 0) = true := by rw [bne_iff_ne]; omega
    have tz2 : (z != 0) = true := by rw [bne_iff_ne]; exact hz0
    go_wp2_with (go_at_call 84; refine (picture_spaceOf.calls sp (i : Int) (z : Int) _ HE.out).mono ?_; rintro e w4 ⟨rfl, hd⟩; obtain ⟨nd, rfl⟩ := hd.out; clear hd)
    obtain ⟨w9, hw9⟩ : ∃ w9, w9 = ((wr.drewN nd).setCell ⟨gR, 0, none⟩ (.int .i64 0)).setCell ⟨gR, 1, none⟩ (.slice none 0 0) := ⟨_, rfl⟩
    rw [← hw9]
    obtain ⟨hG9, hst9, hbl9⟩ := put2 (blk_drewN R3.out nd) hw9
    refine bodyPost_ret (results_ct rfl _ _ gR 47 #[.int .i64 0, .slice none 0 0] (0, 0) _ rfl hG9 Try.underlying47 rfl (by kernel_rfl)) rfl ?_
    exact ⟨rfl, (pw_below_drewN B3.out nd).trans (hbl9 _ GR.out)⟩
end Go.Proofs.Ytbbebhdcfopmmaa.A
end
section
set_option linter.unusedVariables false
set_option linter.unusedSimpArgs false
namespace Go.Proofs.Ytbbebhdcfopmmaa.A
open Go.RowKit Go.Proofs.YtbbebhdcfopmmaaW.PrintWords Go.Proofs.YtbbebhdcfopmmaaW.PrintLast Go.Proofs.YtbbebhdcfopmmaaW.PrintMore Go.Proofs.Ytbbebhdcfopmmaa.PCodecNames

/-- what is wrong with a picture that is to be made -/
def newE (sp : Int) (n : Nat) (x y : Int) : Nat := if n < 1 ∨ 4 < n then 80 else if sizeB x y = true then spaceE sp n else 50
theorem New_any (sp x y : Int) (n s : Nat) (w : World) : Calls Try.prog 76 #[.int .i64 sp, .int .i64 (n : Int), .int .i64 x, .int .i64 y, .int .u32 (s : Int)] w fun e w' => ∃ (a : Int) (A : Option Addr) (m c : Nat), e = .returned (.tuple #[.agg #[.int .i64 a, .slice A m c], .int .i64 ((newE sp n x y : Nat) : Int)]) ∧ Below w.heap.size w w' := by
 unfold newE
 by_cases h1 : n < 1 ∨ 4 < n
 ·rw [if_pos h1]
  exact (New_form sp x y n s w h1).mono fun e w' h => ⟨0, none, 0, 0, h.1, h.2⟩
 ·rw [if_neg h1]
  by_cases h2 : sizeB x y = true
  ·rw [if_pos h2]
   obtain ⟨b1, b2, b3, b4, b5⟩ := sizeB_true h2
   obtain ⟨W, rfl⟩ : ∃ W : Nat, x = W := ⟨x.toNat, by omega⟩
   obtain ⟨H, rfl⟩ : ∃ H : Nat, y = H := ⟨y.toNat, by omega⟩
   refine (New_main sp n s W H w (by omega) (by omega) h2).mono ?_
   rintro e w' ⟨⟨vp, rfl, ha, hb⟩, hB⟩
   by_cases h3 : spaceE sp n = 0
   ·obtain ⟨hs, hP⟩ := ha h3
    obtain ⟨A, c, rfl⟩ := Kd.R_slice hP.row
    exact ⟨_, _, _, _, rfl, hB⟩
   ·obtain rfl := hb h3
    exact ⟨_, _, _, _, rfl, hB⟩
  ·rw [if_neg h2]
   exact (New_size sp x y n s w (by omega) (by omega) (by simpa using h2)).mono fun e w' h => ⟨0, none, 0, 0, h.1, h.2⟩
def mayB (sp pl x y sd : Nat) : Bool := decide (1 ≤ sd) && decide (sd ≤ 1024) && decide (newE (sp : Int) pl (x : Int) (y : Int) = 0)

set_option maxHeartbeats 2000000 in
set_option maxRecDepth 100000 in
theorem may_calls (sp pl x y sd : Nat) (w : World) : Calls Try.prog 95 #[.agg #[.int .i64 (sp : Int), .int .i64 (pl : Int), .int .i64 (x : Int), .int .i64 (y : Int), .int .i64 (sd : Int)]] w fun e w' => e = .returned (.bool (mayB sp pl x y sd)) ∧ Below w.heap.size w w' := by
 have hu60 := Try.underlying60
 have hu47 := Try.underlying47
 by_cases h1 : sd < 1
 ·have HE : Aside0 (mayB sp pl x y sd = false) := ⟨by unfold mayB; rw [decide_eq_false (by omega : ¬ 1 ≤ sd)]; rfl⟩
  have t1 : decide ((sd : Int) < 1) = true := decide_eq_true (by omega)
  have t2 : decide (sd < 1) = true := decide_eq_true h1

  go_enter Try.func95, Try.ntmps95
  go_wp2_with (((with_reducible refine gate_dst (N := 1) rfl ?_); refine box_event ?hg (N := 1) ?hd (cs := #[.int .i64 (sp : Int), .int .i64 (pl : Int), .int .i64 (x : Int), .int .i64 (y : Int), .int .i64 (sd : Int)]) (t := 60) ?hr ?_; (case hd => rfl); (case hg => rfl); (case hr => first | (go_simp; done) | (go_simp; rfl)); intro gh hg_ w1 hm_ hb_; have B1 := Aside0.mk (hb_); have H1 := Aside0.mk (hm_); have h0 := (blk_cell H1.out 0).trans rfl; have h1 := (blk_cell H1.out 1).trans rfl; have h2 := (blk_cell H1.out 2).trans rfl; have h3 := (blk_cell H1.out 3).trans rfl; have h4 := (blk_cell H1.out 4).trans rfl; clear hm_ hb_ hg_))
  go_ret
  exact ⟨by rw [HE.out]; rfl, B1.out⟩
 ·by_cases h2 : 1024 < sd
  ·have HE : Aside0 (mayB sp pl x y sd = false) := ⟨by unfold mayB; rw [decide_eq_false (by omega : ¬ sd ≤ 1024), Bool.and_false]; rfl⟩
   have t1 : decide ((sd : Int) < 1) = false := decide_eq_false (by omega)
   have t2 : decide (sd < 1) = false := decide_eq_false h1
   have t3 : decide (1024 < sd) = true := decide_eq_true h2
   have t4 : decide (1024 < (sd : Int)) = true := decide_eq_true (by omega)
   go_enter Try.func95, Try.ntmps95
   go_wp2_with (((with_reducible refine gate_dst (N := 1) rfl ?_); refine box_event ?hg (N := 1) ?hd (cs := #[.int .i64 (sp : Int), .int .i64 (pl : Int), .int .i64 (x : Int), .int .i64 (y : Int), .int .i64 (sd : Int)]) (t := 60) ?hr ?_; (case hd => rfl); (case hg => rfl); (case hr => first | (go_simp; done) | (go_simp; rfl)); intro gh hg_ w1 hm_ hb_; have B1 := Aside0.mk (hb_); have H1 := Aside0.mk (hm_); have h0 := (blk_cell H1.out 0).trans rfl; have h1 := (blk_cell H1.out 1).trans rfl; have h2 := (blk_cell H1.out 2).trans rfl; have h3 := (blk_cell H1.out 3).trans rfl; have h4 := (blk_cell H1.out 4).trans rfl; clear hm_ hb_ hg_))
   go_ret
   exact ⟨by rw [HE.out]; rfl, B1.out⟩
  ·obtain ⟨z, hz⟩ : ∃ z, z = newE (sp : Int) pl (x : Int) (y : Int) := ⟨_, rfl⟩
   have HZ := Aside0.mk hz
   have HE : Aside0 (mayB sp pl x y sd = decide (z = 0)) := ⟨by unfold mayB; rw [decide_eq_true (by omega : 1 ≤ sd), decide_eq_true (by omega : sd ≤ 1024), ← hz]; rfl⟩
   have t1 : decide ((sd : Int) < 1) = false := decide_eq_false (by omega)
   have t2 : decide (sd < 1) = false := decide_eq_false h1
   have t3 : decide (1024 < sd) = false := decide_eq_false h2
   have t4 : decide (1024 < (sd : Int)) = false := decide_eq_false (by omega)
   have tz : ((z : Int) == 0) = decide (z = 0) := by
    by_cases h : z = 0
    ·rw [decide_eq_true h, beq_iff_eq]; omega
    ·rw [decide_eq_false h, beq_eq_false_iff_ne]; omega
   clear hz
   go_enter Try.func95, Try.ntmps95
   go_wp2_with (first | ((with_reducible refine gate_dst (N := 1) rfl ?_); refine box_event ?hg (N := 1) ?hd (cs := #[.int .i64 (sp : Int), .int .i64 (pl : Int), .int .i64 (x : Int), .int .i64 (y : Int), .int .i64 (sd : Int)]) (t := 60) ?hr ?_; (case hd => rfl); (case hg => rfl); (case hr => first | (go_simp; done) | (go_simp; rfl)); intro gh hg_ w1 hm_ hb_; have B1 := Aside0.mk (hb_); have H1 := Aside0.mk (hm_); have h0 := (blk_cell H1.out 0).trans rfl; have h1 := (blk_cell H1.out 1).trans rfl; have h2 := (blk_cell H1.out 2).trans rfl; have h3 := (blk_cell H1.out 3).trans rfl; have h4 := (blk_cell H1.out 4).trans rfl; clear hm_ hb_ hg_) | (go_at_call 76; refine (New_any (sp : Int) (x : Int) (y : Int) pl 0 _).mono ?_; rw [← HZ.out]; rintro e w2 ⟨a, A, m, c, rfl, hb⟩; have B2 := Aside0.mk (below_step B1.out hb); clear hb) | ((with_reducible refine gate_dst (N := 3) rfl ?_); refine box_event ?hg (N := 3) ?hd (cs := #[.int .i64 0, .slice none 0 0]) (t := 47) ?hr ?_; (case hd => rfl); (case hg => rfl); (case hr => first | (go_simp; done) | (go_simp; rfl)); intro gn hg_ w3 hm_ hb_; have N3 := Aside0.mk (hm_); have B3 := Aside0.mk (below_step B2.out hb_); have GN := Aside0.mk (show w.heap.size ≤ gn by rw [hg_]; exact below_size B2.out); have o0 := (blk_cell N3.out 0).trans rfl; have o1 := (blk_cell N3.out 1).trans rfl; have fo0 := blk_frozen N3.out 0; have fo1 := blk_frozen N3.out 1; clear hm_ hb_ hg_))
   go_ret
   refine ⟨by rw [HE.out]; first | rfl | (simp; done), ?_⟩
   exact (B3.out.setCell (p := ⟨gn, 0, none⟩) GN.out _).setCell (p := ⟨gn, 1, none⟩) GN.out _
end Go.Proofs.Ytbbebhdcfopmmaa.A
end
