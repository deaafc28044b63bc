import Derived.Test.YtodlgdpkadkjjaaT4
import Derived.ChangeSlices
import Derived.SizedLaws
section
set_option linter.unusedVariables false
set_option linter.unusedSimpArgs false
namespace Go.Proofs.Ytodlgdpkadkjjaa.A
open Go.RowKit Go.Shelf Go.Proofs.YtodlgdpkadkjjaaW.PrintWords Go.Proofs.YtodlgdpkadkjjaaW.PrintLast Go.Proofs.YtodlgdpkadkjjaaW.PrintMore Go.Proofs.Ytodlgdpkadkjjaa.PPyramidLevels
section
variable {P : Program} {ops : Array Oper} {Q : Exit → Act → World → Prop} {o : Oper} {rest : List Oper} {a : Act}
/-- a literal row of samples -/
theorem lit_event {W : World} (hgd : o.guard = none) {N : Tmp} (_hN : o.dst = some N) (xs : List Nat) (hl : xs.length ≤ 1000)
    (hrun : (execOp a.eval o).run P W = .ok (.value (.slice (some ⟨W.heap.size, 0, none⟩) xs.length xs.length)) (W.alloc (.cells (xs.map (fun x : Nat => Value.int .u32 x)).toArray 50 (0, 0))))
    (h : ∀ g w1, PL w1 (some ⟨g, 0, none⟩) xs.length xs.length xs → Below W.heap.size W w1 → wpList P ops Q rest (a.put o.dst (.slice (some ⟨g, 0, none⟩) xs.length xs.length)) w1) : wpList P ops Q (o :: rest) a W :=
 Kd.event_run hgd hrun (h _ _ ⟨Kd.C_of_reads (d := 0) ⟨rfl, by omega, fun hp => ⟨_, rfl, fun j hj => by rw [add_plain, blk_cell (blk_new W _) j]; simp [List.getElem?_eq_getElem hj]⟩⟩, Nat.le_refl _, rfl⟩ (below_alloc (Below.refl _ _) _))
variable {w : World} {K : Act → World → Prop} {N : Option Tmp}
theorem lit_step (hw : Region.wanted o (yielded ops a.tmps) = true) (hN : o.dst = N) (xs : List Nat) (hl : xs.length ≤ 1000)
    (hrun : (execOp a.eval o).run P w = .ok (.value (.slice (some ⟨w.heap.size, 0, none⟩) xs.length xs.length)) (w.alloc (.cells (xs.map (fun x : Nat => Value.int .u32 x)).toArray 50 (0, 0))))
    (h : ∀ g w1, PL w1 (some ⟨g, 0, none⟩) xs.length xs.length xs → Below w.heap.size w w1 → K (a.put N (.slice (some ⟨g, 0, none⟩) xs.length xs.length)) w1) : if Region.wanted o (yielded ops a.tmps) = true then Oper.wp P o a w K Q else K (a.put N undef) w :=
 value_ hw hN hrun (h _ _ (PL.new w xs rfl (by omega)) (below_alloc (Below.refl _ _) _))
end
set_option maxHeartbeats 8000000 in
set_option maxRecDepth 100000 in
theorem known_calls (w : World) : Calls Try.prog 12 #[] w fun e w' => e = .returned (.bool true) ∧ Below w.heap.size w w' := by
 have hu25 := Try.underlying25
 have B_0 : Aside0 (Below w.heap.size w w) := ⟨Below.refl _ _⟩
 go_enter Try.func12, Try.ntmps12
 go_upto_region 4 with (first | ((with_reducible refine gate_store (p := 6) rfl ?_); refine storeP_event rfl rfl rfl g6 1 1 Au 1 cu _ _ _ rfl rfl ZU.out ?_; intro w12 hm_ hst_ hbl_; have BL11_4 := Aside0.mk (BL11_3.out.trans (hbl_ _ GGU.out)); have ZU_ := Aside0.mk hm_; have ZS_ := Aside0.mk ((hst_ g5 NESU.out).trans ZS_.out); have B_12 := Aside0.mk (below_step B_11.out BL11_4.out); have DR_12 := Aside0.mk (blk_below DR_11.out BL11_4.out); have DE_12 := Aside0.mk (blk_below DE_11.out BL11_4.out); have La_12 := Aside0.mk (La_11.out.below BL11_4.out); have Lr_12 := Aside0.mk (Lr_11.out.below BL11_4.out); have Lb_12 := Aside0.mk (Lb_11.out.below BL11_4.out); have Le_12 := Aside0.mk (Le_11.out.below BL11_4.out); have Lc_12 := Aside0.mk (Lc_11.out.below BL11_4.out); have Ls_12 := Aside0.mk (Ls_11.out.below BL11_4.out); have Lu_12 := Aside0.mk (Lu_11.out.below BL11_4.out); clear DR_11 DE_11 La_11 Lr_11 Lb_11 Le_11 Lc_11 Ls_11 Lu_11; have DS_12 := Aside0.mk (ZS_.out); have DU_12 := Aside0.mk (ZU_.out); clear ZS_ ZS ZU_ ZU BL11_1 BL11_2 BL11_3 BL11_4; clear hm_ hst_ hbl_) | ((with_reducible refine gate_store (p := 5) rfl ?_); refine storeP_event rfl rfl rfl g5 1 1 As 1 cs _ _ _ rfl rfl ZS.out ?_; intro w11_3 hm_ hst_ hbl_; have BL11_3 := Aside0.mk (BL11_2.out.trans (hbl_ _ GGS.out)); have ZS_ := Aside0.mk hm_; have ZU := Aside0.mk ((hst_ g6 NESU.out.symm).trans ZU.out); clear hm_ hst_ hbl_) | ((with_reducible refine gate_dst (N := 6) rfl ?_); refine box_event ?hg (N := 6) ?hd (cs := #[.int .i64 0, .int .i64 0, .slice none 0 0]) (t := 25) ?hr ?_; (case hd => rfl); (case hg => rfl); (case hr => first | (go_simp; done) | (go_simp; rfl)); intro g6 hg_ w11_2 hm_ hb_; have BL11_2 := Aside0.mk (BL11_1.out.trans (hb_.mono BL11_1.out.size)); have ZU := Aside0.mk (hm_); have GGU := Aside0.mk (show w11.heap.size ≤ g6 by rw [hg_]; exact BL11_1.out.size); have NESU := Aside0.mk (show g5 ≠ g6 by rw [hg_]; have := blk_lt ZS.out; omega); have ZS := Aside0.mk (blk_below ZS.out hb_); clear hm_ hb_ hg_) | ((with_reducible refine gate_dst (N := 5) rfl ?_); refine box_event ?hg (N := 5) ?hd (cs := #[.int .i64 0, .int .i64 0, .slice none 0 0]) (t := 25) ?hr ?_; (case hd => rfl); (case hg => rfl); (case hr => first | (go_simp; done) | (go_simp; rfl)); intro g5 hg_ w11_1 hm_ hb_; have BL11_1 := Aside0.mk (hb_); have ZS := Aside0.mk (hm_); have GGS := Aside0.mk (show w11.heap.size ≤ g5 by rw [hg_]; exact Nat.le_refl _); clear hm_ hb_ hg_) | (go_at_call 25; have hkey := B_10; clear hkey; refine (Spl_k Lc_10.out).mono ?_; rintro e w11 ⟨As, cs, Au, cu, rfl, hL, hL2, hb⟩; have B_11 := Aside0.mk (below_step B_10.out hb); have DR_11 := Aside0.mk (blk_below DR_10.out hb); have DE_11 := Aside0.mk (blk_below DE_10.out hb); have La_11 := Aside0.mk (La_10.out.below hb); have Lr_11 := Aside0.mk (Lr_10.out.below hb); have Lb_11 := Aside0.mk (Lb_10.out.below hb); have Le_11 := Aside0.mk (Le_10.out.below hb); have Lc_11 := Aside0.mk (Lc_10.out.below hb); clear DR_10 DE_10 La_10 Lr_10 Lb_10 Le_10 Lc_10; have Ls_11 := Aside0.mk (hL); have Lu_11 := Aside0.mk (hL2); clear hb hL hL2) | (go_at_call 42; have hkey := B_9; clear hkey; refine (row1_calls (some ⟨gc, 0, none⟩) 1 _).mono ?_; rintro e w10 ⟨rfl, hb⟩; have B_10 := Aside0.mk (below_step B_9.out hb); have DR_10 := Aside0.mk (blk_below DR_9.out hb); have DE_10 := Aside0.mk (blk_below DE_9.out hb); have La_10 := Aside0.mk (La_9.out.below hb); have Lr_10 := Aside0.mk (Lr_9.out.below hb); have Lb_10 := Aside0.mk (Lb_9.out.below hb); have Le_10 := Aside0.mk (Le_9.out.below hb); have Lc_10 := Aside0.mk (Lc_9.out.below hb); clear DR_9 DE_9 La_9 Lr_9 Lb_9 Le_9 Lc_9; clear hb) | ((with_reducible refine gate_dst (N := 21) rfl ?_); refine lit_event rfl (N := 21) rfl [4294967295] ?hl ?hr ?_; (case hl => decide); (case hr => first | (go_simp; done) | (go_simp; rfl)); intro gc w9 hl_ hb; have B_9 := Aside0.mk (below_step B_8.out hb); have DR_9 := Aside0.mk (blk_below DR_8.out hb); have DE_9 := Aside0.mk (blk_below DE_8.out hb); have La_9 := Aside0.mk (La_8.out.below hb); have Lr_9 := Aside0.mk (Lr_8.out.below hb); have Lb_9 := Aside0.mk (Lb_8.out.below hb); have Le_9 := Aside0.mk (Le_8.out.below hb); clear DR_8 DE_8 La_8 Lr_8 Lb_8 Le_8; have Lc_9 := Aside0.mk (hl_); clear hb hl_) | ((with_reducible refine gate_store (p := 3) rfl ?_); refine storeP_event rfl rfl rfl g3 4 1 Ae 4 ce _ _ _ rfl rfl ZE.out ?_; intro w8 hm_ hst_ hbl_; have BL7_2 := Aside0.mk (BL7_1.out.trans (hbl_ _ GGE.out)); have ZE_ := Aside0.mk hm_; have B_8 := Aside0.mk (below_step B_7.out BL7_2.out); have DR_8 := Aside0.mk (blk_below DR_7.out BL7_2.out); have La_8 := Aside0.mk (La_7.out.below BL7_2.out); have Lr_8 := Aside0.mk (Lr_7.out.below BL7_2.out); have Lb_8 := Aside0.mk (Lb_7.out.below BL7_2.out); have Le_8 := Aside0.mk (Le_7.out.below BL7_2.out); clear DR_7 La_7 Lr_7 Lb_7 Le_7; have DE_8 := Aside0.mk (ZE_.out); clear ZE_ ZE BL7_1 BL7_2; clear hm_ hst_ hbl_) | ((with_reducible refine gate_dst (N := 3) rfl ?_); refine box_event ?hg (N := 3) ?hd (cs := #[.int .i64 0, .int .i64 0, .slice none 0 0]) (t := 25) ?hr ?_; (case hd => rfl); (case hg => rfl); (case hr => first | (go_simp; done) | (go_simp; rfl)); intro g3 hg_ w7_1 hm_ hb_; have BL7_1 := Aside0.mk (hb_); have ZE := Aside0.mk (hm_); have GGE := Aside0.mk (show w7.heap.size ≤ g3 by rw [hg_]; exact Nat.le_refl _); clear hm_ hb_ hg_) | (go_at_call 20; have hkey := B_6; clear hkey; refine (Exp_k Lb_6.out).mono ?_; rintro e w7 ⟨Ae, ce, rfl, hL, hb⟩; have B_7 := Aside0.mk (below_step B_6.out hb); have DR_7 := Aside0.mk (blk_below DR_6.out hb); have La_7 := Aside0.mk (La_6.out.below hb); have Lr_7 := Aside0.mk (Lr_6.out.below hb); have Lb_7 := Aside0.mk (Lb_6.out.below hb); clear DR_6 La_6 Lr_6 Lb_6; have Le_7 := Aside0.mk (hL); clear hb hL) | (go_at_call 42; have hkey := B_5; clear hkey; refine (row2_calls (some ⟨gb, 0, none⟩) 2 _).mono ?_; rintro e w6 ⟨rfl, hb⟩; have B_6 := Aside0.mk (below_step B_5.out hb); have DR_6 := Aside0.mk (blk_below DR_5.out hb); have La_6 := Aside0.mk (La_5.out.below hb); have Lr_6 := Aside0.mk (Lr_5.out.below hb); have Lb_6 := Aside0.mk (Lb_5.out.below hb); clear DR_5 La_5 Lr_5 Lb_5; clear hb) | ((with_reducible refine gate_dst (N := 15) rfl ?_); refine lit_event rfl (N := 15) rfl [1065353216, 1077936128] ?hl ?hr ?_; (case hl => decide); (case hr => first | (go_simp; done) | (go_simp; rfl)); intro gb w5 hl_ hb; have B_5 := Aside0.mk (below_step B_4.out hb); have DR_5 := Aside0.mk (blk_below DR_4.out hb); have La_5 := Aside0.mk (La_4.out.below hb); have Lr_5 := Aside0.mk (Lr_4.out.below hb); clear DR_4 La_4 Lr_4; have Lb_5 := Aside0.mk (hl_); clear hb hl_) | ((with_reducible refine gate_store (p := 1) rfl ?_); refine storeP_event rfl rfl rfl g1 2 1 Ar 2 cr _ _ _ rfl rfl ZR.out ?_; intro w4 hm_ hst_ hbl_; have BL3_2 := Aside0.mk (BL3_1.out.trans (hbl_ _ GGR.out)); have ZR_ := Aside0.mk hm_; have B_4 := Aside0.mk (below_step B_3.out BL3_2.out); have La_4 := Aside0.mk (La_3.out.below BL3_2.out); have Lr_4 := Aside0.mk (Lr_3.out.below BL3_2.out); clear La_3 Lr_3; have DR_4 := Aside0.mk (ZR_.out); clear ZR_ ZR BL3_1 BL3_2; clear hm_ hst_ hbl_) | ((with_reducible refine gate_dst (N := 1) rfl ?_); refine box_event ?hg (N := 1) ?hd (cs := #[.int .i64 0, .int .i64 0, .slice none 0 0]) (t := 25) ?hr ?_; (case hd => rfl); (case hg => rfl); (case hr => first | (go_simp; done) | (go_simp; rfl)); intro g1 hg_ w3_1 hm_ hb_; have BL3_1 := Aside0.mk (hb_); have ZR := Aside0.mk (hm_); have GGR := Aside0.mk (show w3.heap.size ≤ g1 by rw [hg_]; exact Nat.le_refl _); clear hm_ hb_ hg_) | (go_at_call 16; have hkey := B_2; clear hkey; refine (Red_k La_2.out).mono ?_; rintro e w3 ⟨Ar, cr, rfl, hL, hb⟩; have B_3 := Aside0.mk (below_step B_2.out hb); have La_3 := Aside0.mk (La_2.out.below hb); clear La_2; have Lr_3 := Aside0.mk (hL); clear hb hL) | (go_at_call 42; have hkey := B_1; clear hkey; refine (row4_calls (some ⟨ga, 0, none⟩) 4 _).mono ?_; rintro e w2 ⟨rfl, hb⟩; have B_2 := Aside0.mk (below_step B_1.out hb); have La_2 := Aside0.mk (La_1.out.below hb); clear La_1; clear hb) | ((with_reducible refine gate_dst (N := 9) rfl ?_); refine lit_event rfl (N := 9) rfl [1065353216, 1073741824, 1082130432, 1090519040] ?hl ?hr ?_; (case hl => decide); (case hr => first | (go_simp; done) | (go_simp; rfl)); intro ga w1 hl_ hb; have B_1 := Aside0.mk (below_step B_0.out hb); have La_1 := Aside0.mk (hl_); clear hb hl_))
 have hw0 : wrap64 0 = 0 := w64 (by decide) (by decide)
 have DR_d := Aside0.mk (blk_drew DR_12.out)
 have DE_d := Aside0.mk (blk_drew DE_12.out)
 have DS_d := Aside0.mk (blk_drew DS_12.out)
 have DU_d := Aside0.mk (blk_drew DU_12.out)
 have Lr_d := Aside0.mk (Lr_12.out.below (below_drew1 (Below.refl _ _)))
 have Le_d := Aside0.mk (Le_12.out.below (below_drew1 (Below.refl _ _)))
 have Ls_d := Aside0.mk (Ls_12.out.below (below_drew1 (Below.refl _ _)))
 have Lu_d := Aside0.mk (Lu_12.out.below (below_drew1 (Below.refl _ _)))
 have B_d : Aside0 (Below w.heap.size w w12.drew) := ⟨below_drew1 B_12.out⟩
 clear DR_12 DE_12 DS_12 DU_12 Lr_12 Le_12 Ls_12 Lu_12 B_12
 have DR_100 := DR_d
 have DE_100 := DE_d
 have DS_100 := DS_d
 have DU_100 := DU_d
 have Lr_100 := Lr_d
 have Le_100 := Le_d
 have Ls_100 := Ls_d
 have Lu_100 := Lu_d
 have B_100 := B_d
 clear DR_d DE_d DS_d DU_d Lr_d Le_d Ls_d Lu_d B_d
 refine start_ (n := 34) (S := fun w' => w'.cell? ⟨g1, 0, none⟩ = some (.int .i64 2) ∧ w'.cell? ⟨g1, 1, none⟩ = some (.int .i64 1) ∧ w'.cell? ⟨g1, 2, none⟩ = some (.slice Ar 2 cr) ∧ w'.cell? ⟨g3, 0, none⟩ = some (.int .i64 4) ∧ w'.cell? ⟨g3, 1, none⟩ = some (.int .i64 1) ∧ w'.cell? ⟨g3, 2, none⟩ = some (.slice Ae 4 ce) ∧ w'.cell? ⟨g5, 0, none⟩ = some (.int .i64 1) ∧ w'.cell? ⟨g5, 1, none⟩ = some (.int .i64 1) ∧ w'.cell? ⟨g5, 2, none⟩ = some (.slice As 1 cs) ∧ w'.cell? ⟨g6, 0, none⟩ = some (.int .i64 1) ∧ w'.cell? ⟨g6, 1, none⟩ = some (.int .i64 1) ∧ w'.cell? ⟨g6, 2, none⟩ = some (.slice Au 1 cu)) (ds := []) #[ff_,ff_,ff_,ff_,ff_,ff_,ff_,ff_,ff_,ff_,ff_,ff_,ff_,ff_,ff_,ff_,ff_,ff_,ff_,ff_,ff_,ff_,ff_,ff_,ff_,ff_,ff_,ff_,ff_,ff_,ff_,ff_,ff_,ff_] (by kernel_rfl) rfl rfl ⟨(blk_cell DR_100.out 0).trans rfl, (blk_cell DR_100.out 1).trans rfl, (blk_cell DR_100.out 2).trans rfl, (blk_cell DE_100.out 0).trans rfl, (blk_cell DE_100.out 1).trans rfl, (blk_cell DE_100.out 2).trans rfl, (blk_cell DS_100.out 0).trans rfl, (blk_cell DS_100.out 1).trans rfl, (blk_cell DS_100.out 2).trans rfl, (blk_cell DU_100.out 0).trans rfl, (blk_cell DU_100.out 1).trans rfl, (blk_cell DU_100.out 2).trans rfl⟩ (fun hHeld => ?_)
 generalize w12.drew = w100 at *
 refine pure_ (i := 0) (N := some 27) (v := ?_) (a' := ?_) #[tt_,ff_,ff_,ff_,ff_,ff_,ff_,ff_,ff_,ff_,ff_,ff_,ff_,ff_,ff_,ff_,ff_,ff_,ff_,ff_,ff_,ff_,ff_,ff_,ff_,ff_,ff_,ff_,ff_,ff_,ff_,ff_,ff_,ff_] rfl rfl (by kernel_rfl) (fun _ _ _ h => h) (Or.inl ⟨by rfl, ?_⟩) ?_ ?_
 rotate_left
 ·intro w'
  go_simp
  with_reducible rfl
 rotate_left
 ·simp only [Act.put, List.setIfInBounds_toArray, List.set_cons_zero, List.set_cons_succ, i64_w, i32_w]
  rfl
 refine pure_ (i := 2) (N := some 29) (v := ?_) (a' := ?_) #[tt_,ff_,tt_,ff_,ff_,ff_,ff_,ff_,ff_,ff_,ff_,ff_,ff_,ff_,ff_,ff_,ff_,ff_,ff_,ff_,ff_,ff_,ff_,ff_,ff_,ff_,ff_,ff_,ff_,ff_,ff_,ff_,ff_,ff_] rfl rfl (by kernel_rfl) (fun _ _ _ h => h) (Or.inl ⟨by rfl, ?_⟩) ?_ ?_
 rotate_left
 ·intro w'
  go_simp
  with_reducible rfl
 rotate_left
 ·simp only [Act.put, List.setIfInBounds_toArray, List.set_cons_zero, List.set_cons_succ, i64_w, i32_w]
  rfl
 refine pure_ (i := 5) (N := some 32) (v := ?_) (a' := ?_) #[tt_,ff_,tt_,ff_,ff_,tt_,ff_,ff_,ff_,ff_,ff_,ff_,ff_,ff_,ff_,ff_,ff_,ff_,ff_,ff_,ff_,ff_,ff_,ff_,ff_,ff_,ff_,ff_,ff_,ff_,ff_,ff_,ff_,ff_] rfl rfl (by kernel_rfl) (fun _ _ _ h => h) (Or.inl ⟨by rfl, ?_⟩) ?_ ?_
 rotate_left
 ·intro w'
  go_simp
  with_reducible rfl
 rotate_left
 ·simp only [Act.put, List.setIfInBounds_toArray, List.set_cons_zero, List.set_cons_succ, i64_w, i32_w]
  rfl
 refine one_ (i := 1) (N := some 28) #[tt_,tt_,tt_,ff_,ff_,tt_,ff_,ff_,ff_,ff_,ff_,ff_,ff_,ff_,ff_,ff_,ff_,ff_,ff_,ff_,ff_,ff_,ff_,ff_,ff_,ff_,ff_,ff_,ff_,ff_,ff_,ff_,ff_,ff_] rfl rfl (by kernel_rfl) (by decide) (fun K hK => ?_)
 refine goes_ Try.func17 (by kernel_rfl) rfl #[.int .i64 0] (by rfl) rfl rfl (by (try simp only [List.map_toArray, List.map_cons, List.map_nil]); rfl) ?_
 with_reducible refine (num_calls 0 _).mono ?_
 rintro e _ ⟨rfl, rfl⟩
 refine ⟨_, rfl, ?_⟩
 refine hK.out _ _ ⟨(blk_cell DR_100.out 0).trans rfl, (blk_cell DR_100.out 1).trans rfl, (blk_cell DR_100.out 2).trans rfl, (blk_cell DE_100.out 0).trans rfl, (blk_cell DE_100.out 1).trans rfl, (blk_cell DE_100.out 2).trans rfl, (blk_cell DS_100.out 0).trans rfl, (blk_cell DS_100.out 1).trans rfl, (blk_cell DS_100.out 2).trans rfl, (blk_cell DU_100.out 0).trans rfl, (blk_cell DU_100.out 1).trans rfl, (blk_cell DU_100.out 2).trans rfl⟩ (fun hHeld => ?_)
 clear hK K
 refine norm_ (a' := ?_) ?_ ?_
 rotate_left
 ·show Act.put _ (some 28) _ = _
  simp only [Act.put, List.setIfInBounds_toArray, List.set_cons_zero, List.set_cons_succ, i64_w, i32_w]
  rfl
 refine one_ (i := 3) (N := some 30) #[tt_,tt_,tt_,tt_,ff_,tt_,ff_,ff_,ff_,ff_,ff_,ff_,ff_,ff_,ff_,ff_,ff_,ff_,ff_,ff_,ff_,ff_,ff_,ff_,ff_,ff_,ff_,ff_,ff_,ff_,ff_,ff_,ff_,ff_] rfl rfl (by kernel_rfl) (by decide) (fun K hK => ?_)
 refine goes_ Try.func17 (by kernel_rfl) rfl #[.int .i64 0] (by rfl) rfl rfl (by (try simp only [List.map_toArray, List.map_cons, List.map_nil]); rfl) ?_
 with_reducible refine (num_calls 0 _).mono ?_
 rintro e _ ⟨rfl, rfl⟩
 refine ⟨_, rfl, ?_⟩
 refine hK.out _ _ ⟨(blk_cell DR_100.out 0).trans rfl, (blk_cell DR_100.out 1).trans rfl, (blk_cell DR_100.out 2).trans rfl, (blk_cell DE_100.out 0).trans rfl, (blk_cell DE_100.out 1).trans rfl, (blk_cell DE_100.out 2).trans rfl, (blk_cell DS_100.out 0).trans rfl, (blk_cell DS_100.out 1).trans rfl, (blk_cell DS_100.out 2).trans rfl, (blk_cell DU_100.out 0).trans rfl, (blk_cell DU_100.out 1).trans rfl, (blk_cell DU_100.out 2).trans rfl⟩ (fun hHeld => ?_)
 clear hK K
 refine norm_ (a' := ?_) ?_ ?_
 rotate_left
 ·show Act.put _ (some 30) _ = _
  simp only [Act.put, List.setIfInBounds_toArray, List.set_cons_zero, List.set_cons_succ, i64_w, i32_w]
  rfl
 refine pure_ (i := 4) (N := some 31) (v := ?_) (a' := ?_) #[tt_,tt_,tt_,tt_,tt_,tt_,ff_,ff_,ff_,ff_,ff_,ff_,ff_,ff_,ff_,ff_,ff_,ff_,ff_,ff_,ff_,ff_,ff_,ff_,ff_,ff_,ff_,ff_,ff_,ff_,ff_,ff_,ff_,ff_] rfl rfl (by kernel_rfl) (fun _ _ _ h => h) (Or.inl ⟨by rfl, ?_⟩) ?_ ?_
 rotate_left
 ·intro w'
  go_simp
  with_reducible rfl
 rotate_left
 ·simp only [Act.put, List.setIfInBounds_toArray, List.set_cons_zero, List.set_cons_succ, i64_w, i32_w]
  rfl
 refine one_ (i := 6) (N := some 33) #[tt_,tt_,tt_,tt_,tt_,tt_,tt_,ff_,ff_,ff_,ff_,ff_,ff_,ff_,ff_,ff_,ff_,ff_,ff_,ff_,ff_,ff_,ff_,ff_,ff_,ff_,ff_,ff_,ff_,ff_,ff_,ff_,ff_,ff_] rfl rfl (by kernel_rfl) (by decide) (fun K hK => ?_)
 refine goes_ Try.func17 (by kernel_rfl) rfl #[.int .i64 0] (by rfl) rfl rfl (by (try simp only [List.map_toArray, List.map_cons, List.map_nil]); rfl) ?_
 with_reducible refine (num_calls 0 _).mono ?_
 rintro e _ ⟨rfl, rfl⟩
 refine ⟨_, rfl, ?_⟩
 refine hK.out _ _ ⟨(blk_cell DR_100.out 0).trans rfl, (blk_cell DR_100.out 1).trans rfl, (blk_cell DR_100.out 2).trans rfl, (blk_cell DE_100.out 0).trans rfl, (blk_cell DE_100.out 1).trans rfl, (blk_cell DE_100.out 2).trans rfl, (blk_cell DS_100.out 0).trans rfl, (blk_cell DS_100.out 1).trans rfl, (blk_cell DS_100.out 2).trans rfl, (blk_cell DU_100.out 0).trans rfl, (blk_cell DU_100.out 1).trans rfl, (blk_cell DU_100.out 2).trans rfl⟩ (fun hHeld => ?_)
 clear hK K
 refine norm_ (a' := ?_) ?_ ?_
 rotate_left
 ·show Act.put _ (some 33) _ = _
  simp only [Act.put, List.setIfInBounds_toArray, List.set_cons_zero, List.set_cons_succ, i64_w, i32_w]
  rfl
 refine pure_ (i := 7) (N := some 34) (v := ?_) (a' := ?_) #[tt_,tt_,tt_,tt_,tt_,tt_,tt_,tt_,ff_,ff_,ff_,ff_,ff_,ff_,ff_,ff_,ff_,ff_,ff_,ff_,ff_,ff_,ff_,ff_,ff_,ff_,ff_,ff_,ff_,ff_,ff_,ff_,ff_,ff_] rfl rfl (by kernel_rfl) (fun _ _ _ h => h) (Or.inl ⟨by rfl, ?_⟩) ?_ ?_
 rotate_left
 ·intro w'
  go_simp
  with_reducible rfl
 rotate_left
 ·simp only [Act.put, List.setIfInBounds_toArray, List.set_cons_zero, List.set_cons_succ, i64_w, i32_w]
  rfl
 refine pure_ (i := 8) (N := some 35) (v := ?_) (a' := ?_) #[tt_,tt_,tt_,tt_,tt_,tt_,tt_,tt_,tt_,ff_,ff_,ff_,ff_,ff_,ff_,ff_,ff_,ff_,ff_,ff_,ff_,ff_,ff_,ff_,ff_,ff_,ff_,ff_,ff_,ff_,ff_,ff_,ff_,ff_] rfl rfl (by kernel_rfl) (fun _ _ _ h => h) (Or.inl ⟨by rfl, ?_⟩) ?_ ?_
 rotate_left
 ·intro w'
  go_simp
  with_reducible rfl
 rotate_left
 ·simp only [Act.put, List.setIfInBounds_toArray, List.set_cons_zero, List.set_cons_succ, i64_w, i32_w]
  rfl
 refine pure_ (i := 9) (N := some 36) (v := ?_) (a' := ?_) #[tt_,tt_,tt_,tt_,tt_,tt_,tt_,tt_,tt_,tt_,ff_,ff_,ff_,ff_,ff_,ff_,ff_,ff_,ff_,ff_,ff_,ff_,ff_,ff_,ff_,ff_,ff_,ff_,ff_,ff_,ff_,ff_,ff_,ff_] rfl rfl (by kernel_rfl) (fun _ _ _ h => h) (Or.inl ⟨by rfl, ?_⟩) ?_ ?_
 rotate_left
 ·intro w'
  go_simp
  with_reducible rfl
 rotate_left
 ·simp only [Act.put, List.setIfInBounds_toArray, List.set_cons_zero, List.set_cons_succ, i64_w, i32_w]
  rfl
 refine take_ (i := 10) (N := some 37) (v := ?_) (a' := ?_) #[tt_,tt_,tt_,tt_,tt_,tt_,tt_,tt_,tt_,tt_,tt_,ff_,ff_,ff_,ff_,ff_,ff_,ff_,ff_,ff_,ff_,ff_,ff_,ff_,ff_,ff_,ff_,ff_,ff_,ff_,ff_,ff_,ff_,ff_] rfl rfl (by kernel_rfl) (fun _ _ _ h => h) (Or.inl ⟨by rfl, ?_⟩) hHeld ?_ ?_
 rotate_left
 ·rintro w' ⟨s0, s1, s2, s3, s4, s5, s6, s7, s8, s9, s10, s11⟩
  go_simp
  with_reducible rfl
 rotate_left
 ·simp only [Act.put, List.setIfInBounds_toArray, List.set_cons_zero, List.set_cons_succ, i64_w, i32_w]
  rfl
 refine one_ (i := 11) (N := some 38) #[tt_,tt_,tt_,tt_,tt_,tt_,tt_,tt_,tt_,tt_,tt_,tt_,ff_,ff_,ff_,ff_,ff_,ff_,ff_,ff_,ff_,ff_,ff_,ff_,ff_,ff_,ff_,ff_,ff_,ff_,ff_,ff_,ff_,ff_] rfl rfl (by kernel_rfl) (by decide) (fun K hK => ?_)
 refine lit_step (by rfl) rfl [1069023232, 1083310080] (by decide) (by first | (go_simp; done) | (go_simp; rfl)) ?_
 intro gx w101 hl_ hb
 have B_101 := Aside0.mk (below_step B_100.out hb)
 have DR_101 := Aside0.mk (blk_below DR_100.out hb)
 have DE_101 := Aside0.mk (blk_below DE_100.out hb)
 have DS_101 := Aside0.mk (blk_below DS_100.out hb)
 have DU_101 := Aside0.mk (blk_below DU_100.out hb)
 have Lr_101 := Aside0.mk (Lr_100.out.below hb)
 have Le_101 := Aside0.mk (Le_100.out.below hb)
 have Ls_101 := Aside0.mk (Ls_100.out.below hb)
 have Lu_101 := Aside0.mk (Lu_100.out.below hb)
 clear DR_100 DE_100 DS_100 DU_100 Lr_100 Le_100 Ls_100 Lu_100
 have Lx_101 := Aside0.mk (hl_)
 clear hb hl_
 refine hK.out _ _ ⟨(blk_cell DR_101.out 0).trans rfl, (blk_cell DR_101.out 1).trans rfl, (blk_cell DR_101.out 2).trans rfl, (blk_cell DE_101.out 0).trans rfl, (blk_cell DE_101.out 1).trans rfl, (blk_cell DE_101.out 2).trans rfl, (blk_cell DS_101.out 0).trans rfl, (blk_cell DS_101.out 1).trans rfl, (blk_cell DS_101.out 2).trans rfl, (blk_cell DU_101.out 0).trans rfl, (blk_cell DU_101.out 1).trans rfl, (blk_cell DU_101.out 2).trans rfl⟩ (fun hHeld => ?_)
 clear hK K
 refine norm_ (a' := ?_) ?_ ?_
 rotate_left
 ·show Act.put _ (some 38) _ = _
  simp only [Act.put, List.setIfInBounds_toArray, List.set_cons_zero, List.set_cons_succ, i64_w, i32_w]
  rfl
 refine one_ (i := 12) (N := some 39) #[tt_,tt_,tt_,tt_,tt_,tt_,tt_,tt_,tt_,tt_,tt_,tt_,tt_,ff_,ff_,ff_,ff_,ff_,ff_,ff_,ff_,ff_,ff_,ff_,ff_,ff_,ff_,ff_,ff_,ff_,ff_,ff_,ff_,ff_] rfl rfl (by kernel_rfl) (by decide) (fun K hK => ?_)
 refine goes_ Try.func42 (by kernel_rfl) rfl #[.slice (some ⟨gx, 0, none⟩) 2 2] (by rfl) rfl rfl (by (try simp only [List.map_toArray, List.map_cons, List.map_nil]); rfl) ?_
 refine (row2_calls (some ⟨gx, 0, none⟩) 2 _).mono ?_
 rintro e w102 ⟨rfl, hb⟩
 refine ⟨_, rfl, ?_⟩
 have B_102 := Aside0.mk (below_step B_101.out hb)
 have DR_102 := Aside0.mk (blk_below DR_101.out hb)
 have DE_102 := Aside0.mk (blk_below DE_101.out hb)
 have DS_102 := Aside0.mk (blk_below DS_101.out hb)
 have DU_102 := Aside0.mk (blk_below DU_101.out hb)
 have Lr_102 := Aside0.mk (Lr_101.out.below hb)
 have Le_102 := Aside0.mk (Le_101.out.below hb)
 have Ls_102 := Aside0.mk (Ls_101.out.below hb)
 have Lu_102 := Aside0.mk (Lu_101.out.below hb)
 have Lx_102 := Aside0.mk (Lx_101.out.below hb)
 clear DR_101 DE_101 DS_101 DU_101 Lr_101 Le_101 Ls_101 Lu_101 Lx_101
 clear hb
 refine hK.out _ _ ⟨(blk_cell DR_102.out 0).trans rfl, (blk_cell DR_102.out 1).trans rfl, (blk_cell DR_102.out 2).trans rfl, (blk_cell DE_102.out 0).trans rfl, (blk_cell DE_102.out 1).trans rfl, (blk_cell DE_102.out 2).trans rfl, (blk_cell DS_102.out 0).trans rfl, (blk_cell DS_102.out 1).trans rfl, (blk_cell DS_102.out 2).trans rfl, (blk_cell DU_102.out 0).trans rfl, (blk_cell DU_102.out 1).trans rfl, (blk_cell DU_102.out 2).trans rfl⟩ (fun hHeld => ?_)
 clear hK K
 refine norm_ (a' := ?_) ?_ ?_
 rotate_left
 ·show Act.put _ (some 39) _ = _
  simp only [Act.put, List.setIfInBounds_toArray, List.set_cons_zero, List.set_cons_succ, i64_w, i32_w]
  rfl
 refine one_ (i := 13) (N := some 40) #[tt_,tt_,tt_,tt_,tt_,tt_,tt_,tt_,tt_,tt_,tt_,tt_,tt_,tt_,ff_,ff_,ff_,ff_,ff_,ff_,ff_,ff_,ff_,ff_,ff_,ff_,ff_,ff_,ff_,ff_,ff_,ff_,ff_,ff_] rfl rfl (by kernel_rfl) (by decide) (fun K hK => ?_)
 refine goes_ Try.func18 (by kernel_rfl) rfl #[.agg #[.int .i64 2, .int .i64 1, .slice Ar 2 cr], .agg #[.int .i64 2, .int .i64 1, .slice (some ⟨gx, 0, none⟩) 2 2]] (by rfl) rfl rfl (by (try simp only [List.map_toArray, List.map_cons, List.map_nil]); rfl) ?_
 refine (same2_k Lr_102.out Lx_102.out).mono ?_
 rintro e w103 ⟨rfl, hb⟩
 refine ⟨_, rfl, ?_⟩
 have B_103 := Aside0.mk (below_step B_102.out hb)
 have DR_103 := Aside0.mk (blk_below DR_102.out hb)
 have DE_103 := Aside0.mk (blk_below DE_102.out hb)
 have DS_103 := Aside0.mk (blk_below DS_102.out hb)
 have DU_103 := Aside0.mk (blk_below DU_102.out hb)
 have Lr_103 := Aside0.mk (Lr_102.out.below hb)
 have Le_103 := Aside0.mk (Le_102.out.below hb)
 have Ls_103 := Aside0.mk (Ls_102.out.below hb)
 have Lu_103 := Aside0.mk (Lu_102.out.below hb)
 have Lx_103 := Aside0.mk (Lx_102.out.below hb)
 clear DR_102 DE_102 DS_102 DU_102 Lr_102 Le_102 Ls_102 Lu_102 Lx_102
 clear hb
 refine hK.out _ _ ⟨(blk_cell DR_103.out 0).trans rfl, (blk_cell DR_103.out 1).trans rfl, (blk_cell DR_103.out 2).trans rfl, (blk_cell DE_103.out 0).trans rfl, (blk_cell DE_103.out 1).trans rfl, (blk_cell DE_103.out 2).trans rfl, (blk_cell DS_103.out 0).trans rfl, (blk_cell DS_103.out 1).trans rfl, (blk_cell DS_103.out 2).trans rfl, (blk_cell DU_103.out 0).trans rfl, (blk_cell DU_103.out 1).trans rfl, (blk_cell DU_103.out 2).trans rfl⟩ (fun hHeld => ?_)
 clear hK K
 refine norm_ (a' := ?_) ?_ ?_
 rotate_left
 ·show Act.put _ (some 40) _ = _
  simp only [Act.put, List.setIfInBounds_toArray, List.set_cons_zero, List.set_cons_succ, i64_w, i32_w]
  rfl
 refine pure_ (i := 14) (N := some 41) (v := ?_) (a' := ?_) #[tt_,tt_,tt_,tt_,tt_,tt_,tt_,tt_,tt_,tt_,tt_,tt_,tt_,tt_,tt_,ff_,ff_,ff_,ff_,ff_,ff_,ff_,ff_,ff_,ff_,ff_,ff_,ff_,ff_,ff_,ff_,ff_,ff_,ff_] rfl rfl (by kernel_rfl) (fun _ _ _ h => h) (Or.inl ⟨by rfl, ?_⟩) ?_ ?_
 rotate_left
 ·intro w'
  go_simp
  with_reducible rfl
 rotate_left
 ·simp only [Act.put, List.setIfInBounds_toArray, List.set_cons_zero, List.set_cons_succ, i64_w, i32_w]
  rfl
 refine pure_ (i := 15) (N := some 42) (v := ?_) (a' := ?_) #[tt_,tt_,tt_,tt_,tt_,tt_,tt_,tt_,tt_,tt_,tt_,tt_,tt_,tt_,tt_,tt_,ff_,ff_,ff_,ff_,ff_,ff_,ff_,ff_,ff_,ff_,ff_,ff_,ff_,ff_,ff_,ff_,ff_,ff_] rfl rfl (by kernel_rfl) (fun _ _ _ h => h) (Or.inl ⟨by rfl, ?_⟩) ?_ ?_
 rotate_left
 ·intro w'
  go_simp
  with_reducible rfl
 rotate_left
 ·simp only [Act.put, List.setIfInBounds_toArray, List.set_cons_zero, List.set_cons_succ, i64_w, i32_w]
  rfl
 refine take_ (i := 16) (N := some 43) (v := ?_) (a' := ?_) #[tt_,tt_,tt_,tt_,tt_,tt_,tt_,tt_,tt_,tt_,tt_,tt_,tt_,tt_,tt_,tt_,tt_,ff_,ff_,ff_,ff_,ff_,ff_,ff_,ff_,ff_,ff_,ff_,ff_,ff_,ff_,ff_,ff_,ff_] rfl rfl (by kernel_rfl) (fun _ _ _ h => h) (Or.inl ⟨by rfl, ?_⟩) hHeld ?_ ?_
 rotate_left
 ·rintro w' ⟨s0, s1, s2, s3, s4, s5, s6, s7, s8, s9, s10, s11⟩
  go_simp
  with_reducible rfl
 rotate_left
 ·simp only [Act.put, List.setIfInBounds_toArray, List.set_cons_zero, List.set_cons_succ, i64_w, i32_w]
  rfl
 refine one_ (i := 17) (N := some 44) #[tt_,tt_,tt_,tt_,tt_,tt_,tt_,tt_,tt_,tt_,tt_,tt_,tt_,tt_,tt_,tt_,tt_,tt_,ff_,ff_,ff_,ff_,ff_,ff_,ff_,ff_,ff_,ff_,ff_,ff_,ff_,ff_,ff_,ff_] rfl rfl (by kernel_rfl) (by decide) (fun K hK => ?_)
 refine lit_step (by rfl) rfl [1067450368, 1073741824, 1076887552, 1077936128] (by decide) (by first | (go_simp; done) | (go_simp; rfl)) ?_
 intro gy w104 hl_ hb
 have B_104 := Aside0.mk (below_step B_103.out hb)
 have DR_104 := Aside0.mk (blk_below DR_103.out hb)
 have DE_104 := Aside0.mk (blk_below DE_103.out hb)
 have DS_104 := Aside0.mk (blk_below DS_103.out hb)
 have DU_104 := Aside0.mk (blk_below DU_103.out hb)
 have Lr_104 := Aside0.mk (Lr_103.out.below hb)
 have Le_104 := Aside0.mk (Le_103.out.below hb)
 have Ls_104 := Aside0.mk (Ls_103.out.below hb)
 have Lu_104 := Aside0.mk (Lu_103.out.below hb)
 clear DR_103 DE_103 DS_103 DU_103 Lr_103 Le_103 Ls_103 Lu_103
 have Ly_104 := Aside0.mk (hl_)
 clear hb hl_
 refine hK.out _ _ ⟨(blk_cell DR_104.out 0).trans rfl, (blk_cell DR_104.out 1).trans rfl, (blk_cell DR_104.out 2).trans rfl, (blk_cell DE_104.out 0).trans rfl, (blk_cell DE_104.out 1).trans rfl, (blk_cell DE_104.out 2).trans rfl, (blk_cell DS_104.out 0).trans rfl, (blk_cell DS_104.out 1).trans rfl, (blk_cell DS_104.out 2).trans rfl, (blk_cell DU_104.out 0).trans rfl, (blk_cell DU_104.out 1).trans rfl, (blk_cell DU_104.out 2).trans rfl⟩ (fun hHeld => ?_)
 clear hK K
 refine norm_ (a' := ?_) ?_ ?_
 rotate_left
 ·show Act.put _ (some 44) _ = _
  simp only [Act.put, List.setIfInBounds_toArray, List.set_cons_zero, List.set_cons_succ, i64_w, i32_w]
  rfl
 refine one_ (i := 18) (N := some 45) #[tt_,tt_,tt_,tt_,tt_,tt_,tt_,tt_,tt_,tt_,tt_,tt_,tt_,tt_,tt_,tt_,tt_,tt_,tt_,ff_,ff_,ff_,ff_,ff_,ff_,ff_,ff_,ff_,ff_,ff_,ff_,ff_,ff_,ff_] rfl rfl (by kernel_rfl) (by decide) (fun K hK => ?_)
 refine goes_ Try.func42 (by kernel_rfl) rfl #[.slice (some ⟨gy, 0, none⟩) 4 4] (by rfl) rfl rfl (by (try simp only [List.map_toArray, List.map_cons, List.map_nil]); rfl) ?_
 refine (row4_calls (some ⟨gy, 0, none⟩) 4 _).mono ?_
 rintro e w105 ⟨rfl, hb⟩
 refine ⟨_, rfl, ?_⟩
 have B_105 := Aside0.mk (below_step B_104.out hb)
 have DR_105 := Aside0.mk (blk_below DR_104.out hb)
 have DE_105 := Aside0.mk (blk_below DE_104.out hb)
 have DS_105 := Aside0.mk (blk_below DS_104.out hb)
 have DU_105 := Aside0.mk (blk_below DU_104.out hb)
 have Lr_105 := Aside0.mk (Lr_104.out.below hb)
 have Le_105 := Aside0.mk (Le_104.out.below hb)
 have Ls_105 := Aside0.mk (Ls_104.out.below hb)
 have Lu_105 := Aside0.mk (Lu_104.out.below hb)
 have Ly_105 := Aside0.mk (Ly_104.out.below hb)
 clear DR_104 DE_104 DS_104 DU_104 Lr_104 Le_104 Ls_104 Lu_104 Ly_104
 clear hb
 refine hK.out _ _ ⟨(blk_cell DR_105.out 0).trans rfl, (blk_cell DR_105.out 1).trans rfl, (blk_cell DR_105.out 2).trans rfl, (blk_cell DE_105.out 0).trans rfl, (blk_cell DE_105.out 1).trans rfl, (blk_cell DE_105.out 2).trans rfl, (blk_cell DS_105.out 0).trans rfl, (blk_cell DS_105.out 1).trans rfl, (blk_cell DS_105.out 2).trans rfl, (blk_cell DU_105.out 0).trans rfl, (blk_cell DU_105.out 1).trans rfl, (blk_cell DU_105.out 2).trans rfl⟩ (fun hHeld => ?_)
 clear hK K
 refine norm_ (a' := ?_) ?_ ?_
 rotate_left
 ·show Act.put _ (some 45) _ = _
  simp only [Act.put, List.setIfInBounds_toArray, List.set_cons_zero, List.set_cons_succ, i64_w, i32_w]
  rfl
 refine one_ (i := 19) (N := some 46) #[tt_,tt_,tt_,tt_,tt_,tt_,tt_,tt_,tt_,tt_,tt_,tt_,tt_,tt_,tt_,tt_,tt_,tt_,tt_,tt_,ff_,ff_,ff_,ff_,ff_,ff_,ff_,ff_,ff_,ff_,ff_,ff_,ff_,ff_] rfl rfl (by kernel_rfl) (by decide) (fun K hK => ?_)
 refine goes_ Try.func18 (by kernel_rfl) rfl #[.agg #[.int .i64 4, .int .i64 1, .slice Ae 4 ce], .agg #[.int .i64 4, .int .i64 1, .slice (some ⟨gy, 0, none⟩) 4 4]] (by rfl) rfl rfl (by (try simp only [List.map_toArray, List.map_cons, List.map_nil]); rfl) ?_
 refine (same4_k Le_105.out Ly_105.out).mono ?_
 rintro e w106 ⟨rfl, hb⟩
 refine ⟨_, rfl, ?_⟩
 have B_106 := Aside0.mk (below_step B_105.out hb)
 have DR_106 := Aside0.mk (blk_below DR_105.out hb)
 have DE_106 := Aside0.mk (blk_below DE_105.out hb)
 have DS_106 := Aside0.mk (blk_below DS_105.out hb)
 have DU_106 := Aside0.mk (blk_below DU_105.out hb)
 have Lr_106 := Aside0.mk (Lr_105.out.below hb)
 have Le_106 := Aside0.mk (Le_105.out.below hb)
 have Ls_106 := Aside0.mk (Ls_105.out.below hb)
 have Lu_106 := Aside0.mk (Lu_105.out.below hb)
 have Ly_106 := Aside0.mk (Ly_105.out.below hb)
 clear DR_105 DE_105 DS_105 DU_105 Lr_105 Le_105 Ls_105 Lu_105 Ly_105
 clear hb
 refine hK.out _ _ ⟨(blk_cell DR_106.out 0).trans rfl, (blk_cell DR_106.out 1).trans rfl, (blk_cell DR_106.out 2).trans rfl, (blk_cell DE_106.out 0).trans rfl, (blk_cell DE_106.out 1).trans rfl, (blk_cell DE_106.out 2).trans rfl, (blk_cell DS_106.out 0).trans rfl, (blk_cell DS_106.out 1).trans rfl, (blk_cell DS_106.out 2).trans rfl, (blk_cell DU_106.out 0).trans rfl, (blk_cell DU_106.out 1).trans rfl, (blk_cell DU_106.out 2).trans rfl⟩ (fun hHeld => ?_)
 clear hK K
 refine norm_ (a' := ?_) ?_ ?_
 rotate_left
 ·show Act.put _ (some 46) _ = _
  simp only [Act.put, List.setIfInBounds_toArray, List.set_cons_zero, List.set_cons_succ, i64_w, i32_w]
  rfl
 refine pure_ (i := 20) (N := some 47) (v := ?_) (a' := ?_) #[tt_,tt_,tt_,tt_,tt_,tt_,tt_,tt_,tt_,tt_,tt_,tt_,tt_,tt_,tt_,tt_,tt_,tt_,tt_,tt_,tt_,ff_,ff_,ff_,ff_,ff_,ff_,ff_,ff_,ff_,ff_,ff_,ff_,ff_] rfl rfl (by kernel_rfl) (fun _ _ _ h => h) (Or.inl ⟨by rfl, ?_⟩) ?_ ?_
 rotate_left
 ·intro w'
  go_simp
  with_reducible rfl
 rotate_left
 ·simp only [Act.put, List.setIfInBounds_toArray, List.set_cons_zero, List.set_cons_succ, i64_w, i32_w]
  rfl
 refine pure_ (i := 21) (N := some 48) (v := ?_) (a' := ?_) #[tt_,tt_,tt_,tt_,tt_,tt_,tt_,tt_,tt_,tt_,tt_,tt_,tt_,tt_,tt_,tt_,tt_,tt_,tt_,tt_,tt_,tt_,ff_,ff_,ff_,ff_,ff_,ff_,ff_,ff_,ff_,ff_,ff_,ff_] rfl rfl (by kernel_rfl) (fun _ _ _ h => h) (Or.inl ⟨by rfl, ?_⟩) ?_ ?_
 rotate_left
 ·intro w'
  go_simp
  with_reducible rfl
 rotate_left
 ·simp only [Act.put, List.setIfInBounds_toArray, List.set_cons_zero, List.set_cons_succ, i64_w, i32_w]
  rfl
 refine take_ (i := 22) (N := some 49) (v := ?_) (a' := ?_) #[tt_,tt_,tt_,tt_,tt_,tt_,tt_,tt_,tt_,tt_,tt_,tt_,tt_,tt_,tt_,tt_,tt_,tt_,tt_,tt_,tt_,tt_,tt_,ff_,ff_,ff_,ff_,ff_,ff_,ff_,ff_,ff_,ff_,ff_] rfl rfl (by kernel_rfl) (fun _ _ _ h => h) (Or.inl ⟨by rfl, ?_⟩) hHeld ?_ ?_
 rotate_left
 ·rintro w' ⟨s0, s1, s2, s3, s4, s5, s6, s7, s8, s9, s10, s11⟩
  go_simp
  with_reducible rfl
 rotate_left
 ·simp only [Act.put, List.setIfInBounds_toArray, List.set_cons_zero, List.set_cons_succ, i64_w, i32_w]
  rfl
 refine one_ (i := 23) (N := some 50) #[tt_,tt_,tt_,tt_,tt_,tt_,tt_,tt_,tt_,tt_,tt_,tt_,tt_,tt_,tt_,tt_,tt_,tt_,tt_,tt_,tt_,tt_,tt_,tt_,ff_,ff_,ff_,ff_,ff_,ff_,ff_,ff_,ff_,ff_] rfl rfl (by kernel_rfl) (by decide) (fun K hK => ?_)
 refine lit_step (by rfl) rfl [2143289344] (by decide) (by first | (go_simp; done) | (go_simp; rfl)) ?_
 intro gz w107 hl_ hb
 have B_107 := Aside0.mk (below_step B_106.out hb)
 have DR_107 := Aside0.mk (blk_below DR_106.out hb)
 have DE_107 := Aside0.mk (blk_below DE_106.out hb)
 have DS_107 := Aside0.mk (blk_below DS_106.out hb)
 have DU_107 := Aside0.mk (blk_below DU_106.out hb)
 have Lr_107 := Aside0.mk (Lr_106.out.below hb)
 have Le_107 := Aside0.mk (Le_106.out.below hb)
 have Ls_107 := Aside0.mk (Ls_106.out.below hb)
 have Lu_107 := Aside0.mk (Lu_106.out.below hb)
 clear DR_106 DE_106 DS_106 DU_106 Lr_106 Le_106 Ls_106 Lu_106
 have Lz_107 := Aside0.mk (hl_)
 clear hb hl_
 refine hK.out _ _ ⟨(blk_cell DR_107.out 0).trans rfl, (blk_cell DR_107.out 1).trans rfl, (blk_cell DR_107.out 2).trans rfl, (blk_cell DE_107.out 0).trans rfl, (blk_cell DE_107.out 1).trans rfl, (blk_cell DE_107.out 2).trans rfl, (blk_cell DS_107.out 0).trans rfl, (blk_cell DS_107.out 1).trans rfl, (blk_cell DS_107.out 2).trans rfl, (blk_cell DU_107.out 0).trans rfl, (blk_cell DU_107.out 1).trans rfl, (blk_cell DU_107.out 2).trans rfl⟩ (fun hHeld => ?_)
 clear hK K
 refine norm_ (a' := ?_) ?_ ?_
 rotate_left
 ·show Act.put _ (some 50) _ = _
  simp only [Act.put, List.setIfInBounds_toArray, List.set_cons_zero, List.set_cons_succ, i64_w, i32_w]
  rfl
 refine one_ (i := 24) (N := some 51) #[tt_,tt_,tt_,tt_,tt_,tt_,tt_,tt_,tt_,tt_,tt_,tt_,tt_,tt_,tt_,tt_,tt_,tt_,tt_,tt_,tt_,tt_,tt_,tt_,tt_,ff_,ff_,ff_,ff_,ff_,ff_,ff_,ff_,ff_] rfl rfl (by kernel_rfl) (by decide) (fun K hK => ?_)
 refine goes_ Try.func42 (by kernel_rfl) rfl #[.slice (some ⟨gz, 0, none⟩) 1 1] (by rfl) rfl rfl (by (try simp only [List.map_toArray, List.map_cons, List.map_nil]); rfl) ?_
 refine (row1_calls (some ⟨gz, 0, none⟩) 1 _).mono ?_
 rintro e w108 ⟨rfl, hb⟩
 refine ⟨_, rfl, ?_⟩
 have B_108 := Aside0.mk (below_step B_107.out hb)
 have DR_108 := Aside0.mk (blk_below DR_107.out hb)
 have DE_108 := Aside0.mk (blk_below DE_107.out hb)
 have DS_108 := Aside0.mk (blk_below DS_107.out hb)
 have DU_108 := Aside0.mk (blk_below DU_107.out hb)
 have Lr_108 := Aside0.mk (Lr_107.out.below hb)
 have Le_108 := Aside0.mk (Le_107.out.below hb)
 have Ls_108 := Aside0.mk (Ls_107.out.below hb)
 have Lu_108 := Aside0.mk (Lu_107.out.below hb)
 have Lz_108 := Aside0.mk (Lz_107.out.below hb)
 clear DR_107 DE_107 DS_107 DU_107 Lr_107 Le_107 Ls_107 Lu_107 Lz_107
 clear hb
 refine hK.out _ _ ⟨(blk_cell DR_108.out 0).trans rfl, (blk_cell DR_108.out 1).trans rfl, (blk_cell DR_108.out 2).trans rfl, (blk_cell DE_108.out 0).trans rfl, (blk_cell DE_108.out 1).trans rfl, (blk_cell DE_108.out 2).trans rfl, (blk_cell DS_108.out 0).trans rfl, (blk_cell DS_108.out 1).trans rfl, (blk_cell DS_108.out 2).trans rfl, (blk_cell DU_108.out 0).trans rfl, (blk_cell DU_108.out 1).trans rfl, (blk_cell DU_108.out 2).trans rfl⟩ (fun hHeld => ?_)
 clear hK K
 refine norm_ (a' := ?_) ?_ ?_
 rotate_left
 ·show Act.put _ (some 51) _ = _
  simp only [Act.put, List.setIfInBounds_toArray, List.set_cons_zero, List.set_cons_succ, i64_w, i32_w]
  rfl
 refine one_ (i := 25) (N := some 52) #[tt_,tt_,tt_,tt_,tt_,tt_,tt_,tt_,tt_,tt_,tt_,tt_,tt_,tt_,tt_,tt_,tt_,tt_,tt_,tt_,tt_,tt_,tt_,tt_,tt_,tt_,ff_,ff_,ff_,ff_,ff_,ff_,ff_,ff_] rfl rfl (by kernel_rfl) (by decide) (fun K hK => ?_)
 refine goes_ Try.func18 (by kernel_rfl) rfl #[.agg #[.int .i64 1, .int .i64 1, .slice As 1 cs], .agg #[.int .i64 1, .int .i64 1, .slice (some ⟨gz, 0, none⟩) 1 1]] (by rfl) rfl rfl (by (try simp only [List.map_toArray, List.map_cons, List.map_nil]); rfl) ?_
 refine (same1_k Ls_108.out Lz_108.out).mono ?_
 rintro e w109 ⟨rfl, hb⟩
 refine ⟨_, rfl, ?_⟩
 have B_109 := Aside0.mk (below_step B_108.out hb)
 have DR_109 := Aside0.mk (blk_below DR_108.out hb)
 have DE_109 := Aside0.mk (blk_below DE_108.out hb)
 have DS_109 := Aside0.mk (blk_below DS_108.out hb)
 have DU_109 := Aside0.mk (blk_below DU_108.out hb)
 have Lr_109 := Aside0.mk (Lr_108.out.below hb)
 have Le_109 := Aside0.mk (Le_108.out.below hb)
 have Ls_109 := Aside0.mk (Ls_108.out.below hb)
 have Lu_109 := Aside0.mk (Lu_108.out.below hb)
 have Lz_109 := Aside0.mk (Lz_108.out.below hb)
 clear DR_108 DE_108 DS_108 DU_108 Lr_108 Le_108 Ls_108 Lu_108 Lz_108
 clear hb
 refine hK.out _ _ ⟨(blk_cell DR_109.out 0).trans rfl, (blk_cell DR_109.out 1).trans rfl, (blk_cell DR_109.out 2).trans rfl, (blk_cell DE_109.out 0).trans rfl, (blk_cell DE_109.out 1).trans rfl, (blk_cell DE_109.out 2).trans rfl, (blk_cell DS_109.out 0).trans rfl, (blk_cell DS_109.out 1).trans rfl, (blk_cell DS_109.out 2).trans rfl, (blk_cell DU_109.out 0).trans rfl, (blk_cell DU_109.out 1).trans rfl, (blk_cell DU_109.out 2).trans rfl⟩ (fun hHeld => ?_)
 clear hK K
 refine norm_ (a' := ?_) ?_ ?_
 rotate_left
 ·show Act.put _ (some 52) _ = _
  simp only [Act.put, List.setIfInBounds_toArray, List.set_cons_zero, List.set_cons_succ, i64_w, i32_w]
  rfl
 refine pure_ (i := 26) (N := some 53) (v := ?_) (a' := ?_) #[tt_,tt_,tt_,tt_,tt_,tt_,tt_,tt_,tt_,tt_,tt_,tt_,tt_,tt_,tt_,tt_,tt_,tt_,tt_,tt_,tt_,tt_,tt_,tt_,tt_,tt_,tt_,ff_,ff_,ff_,ff_,ff_,ff_,ff_] rfl rfl (by kernel_rfl) (fun _ _ _ h => h) (Or.inl ⟨by rfl, ?_⟩) ?_ ?_
 rotate_left
 ·intro w'
  go_simp
  with_reducible rfl
 rotate_left
 ·simp only [Act.put, List.setIfInBounds_toArray, List.set_cons_zero, List.set_cons_succ, i64_w, i32_w]
  rfl
 refine pure_ (i := 27) (N := some 54) (v := ?_) (a' := ?_) #[tt_,tt_,tt_,tt_,tt_,tt_,tt_,tt_,tt_,tt_,tt_,tt_,tt_,tt_,tt_,tt_,tt_,tt_,tt_,tt_,tt_,tt_,tt_,tt_,tt_,tt_,tt_,tt_,ff_,ff_,ff_,ff_,ff_,ff_] rfl rfl (by kernel_rfl) (fun _ _ _ h => h) (Or.inl ⟨by rfl, ?_⟩) ?_ ?_
 rotate_left
 ·intro w'
  go_simp
  with_reducible rfl
 rotate_left
 ·simp only [Act.put, List.setIfInBounds_toArray, List.set_cons_zero, List.set_cons_succ, i64_w, i32_w]
  rfl
 refine take_ (i := 28) (N := some 55) (v := ?_) (a' := ?_) #[tt_,tt_,tt_,tt_,tt_,tt_,tt_,tt_,tt_,tt_,tt_,tt_,tt_,tt_,tt_,tt_,tt_,tt_,tt_,tt_,tt_,tt_,tt_,tt_,tt_,tt_,tt_,tt_,tt_,ff_,ff_,ff_,ff_,ff_] rfl rfl (by kernel_rfl) (fun _ _ _ h => h) (Or.inl ⟨by rfl, ?_⟩) hHeld ?_ ?_
 rotate_left
 ·rintro w' ⟨s0, s1, s2, s3, s4, s5, s6, s7, s8, s9, s10, s11⟩
  go_simp
  with_reducible rfl
 rotate_left
 ·simp only [Act.put, List.setIfInBounds_toArray, List.set_cons_zero, List.set_cons_succ, i64_w, i32_w]
  rfl
 refine one_ (i := 29) (N := some 56) #[tt_,tt_,tt_,tt_,tt_,tt_,tt_,tt_,tt_,tt_,tt_,tt_,tt_,tt_,tt_,tt_,tt_,tt_,tt_,tt_,tt_,tt_,tt_,tt_,tt_,tt_,tt_,tt_,tt_,tt_,ff_,ff_,ff_,ff_] rfl rfl (by kernel_rfl) (by decide) (fun K hK => ?_)
 refine lit_step (by rfl) rfl [4194304] (by decide) (by first | (go_simp; done) | (go_simp; rfl)) ?_
 intro gv w110 hl_ hb
 have B_110 := Aside0.mk (below_step B_109.out hb)
 have DR_110 := Aside0.mk (blk_below DR_109.out hb)
 have DE_110 := Aside0.mk (blk_below DE_109.out hb)
 have DS_110 := Aside0.mk (blk_below DS_109.out hb)
 have DU_110 := Aside0.mk (blk_below DU_109.out hb)
 have Lr_110 := Aside0.mk (Lr_109.out.below hb)
 have Le_110 := Aside0.mk (Le_109.out.below hb)
 have Ls_110 := Aside0.mk (Ls_109.out.below hb)
 have Lu_110 := Aside0.mk (Lu_109.out.below hb)
 clear DR_109 DE_109 DS_109 DU_109 Lr_109 Le_109 Ls_109 Lu_109
 have Lv_110 := Aside0.mk (hl_)
 clear hb hl_
 refine hK.out _ _ ⟨(blk_cell DR_110.out 0).trans rfl, (blk_cell DR_110.out 1).trans rfl, (blk_cell DR_110.out 2).trans rfl, (blk_cell DE_110.out 0).trans rfl, (blk_cell DE_110.out 1).trans rfl, (blk_cell DE_110.out 2).trans rfl, (blk_cell DS_110.out 0).trans rfl, (blk_cell DS_110.out 1).trans rfl, (blk_cell DS_110.out 2).trans rfl, (blk_cell DU_110.out 0).trans rfl, (blk_cell DU_110.out 1).trans rfl, (blk_cell DU_110.out 2).trans rfl⟩ (fun hHeld => ?_)
 clear hK K
 refine norm_ (a' := ?_) ?_ ?_
 rotate_left
 ·show Act.put _ (some 56) _ = _
  simp only [Act.put, List.setIfInBounds_toArray, List.set_cons_zero, List.set_cons_succ, i64_w, i32_w]
  rfl
 refine one_ (i := 30) (N := some 57) #[tt_,tt_,tt_,tt_,tt_,tt_,tt_,tt_,tt_,tt_,tt_,tt_,tt_,tt_,tt_,tt_,tt_,tt_,tt_,tt_,tt_,tt_,tt_,tt_,tt_,tt_,tt_,tt_,tt_,tt_,tt_,ff_,ff_,ff_] rfl rfl (by kernel_rfl) (by decide) (fun K hK => ?_)
 refine goes_ Try.func42 (by kernel_rfl) rfl #[.slice (some ⟨gv, 0, none⟩) 1 1] (by rfl) rfl rfl (by (try simp only [List.map_toArray, List.map_cons, List.map_nil]); rfl) ?_
 refine (row1_calls (some ⟨gv, 0, none⟩) 1 _).mono ?_
 rintro e w111 ⟨rfl, hb⟩
 refine ⟨_, rfl, ?_⟩
 have B_111 := Aside0.mk (below_step B_110.out hb)
 have DR_111 := Aside0.mk (blk_below DR_110.out hb)
 have DE_111 := Aside0.mk (blk_below DE_110.out hb)
 have DS_111 := Aside0.mk (blk_below DS_110.out hb)
 have DU_111 := Aside0.mk (blk_below DU_110.out hb)
 have Lr_111 := Aside0.mk (Lr_110.out.below hb)
 have Le_111 := Aside0.mk (Le_110.out.below hb)
 have Ls_111 := Aside0.mk (Ls_110.out.below hb)
 have Lu_111 := Aside0.mk (Lu_110.out.below hb)
 have Lv_111 := Aside0.mk (Lv_110.out.below hb)
 clear DR_110 DE_110 DS_110 DU_110 Lr_110 Le_110 Ls_110 Lu_110 Lv_110
 clear hb
 refine hK.out _ _ ⟨(blk_cell DR_111.out 0).trans rfl, (blk_cell DR_111.out 1).trans rfl, (blk_cell DR_111.out 2).trans rfl, (blk_cell DE_111.out 0).trans rfl, (blk_cell DE_111.out 1).trans rfl, (blk_cell DE_111.out 2).trans rfl, (blk_cell DS_111.out 0).trans rfl, (blk_cell DS_111.out 1).trans rfl, (blk_cell DS_111.out 2).trans rfl, (blk_cell DU_111.out 0).trans rfl, (blk_cell DU_111.out 1).trans rfl, (blk_cell DU_111.out 2).trans rfl⟩ (fun hHeld => ?_)
 clear hK K
 refine norm_ (a' := ?_) ?_ ?_
 rotate_left
 ·show Act.put _ (some 57) _ = _
  simp only [Act.put, List.setIfInBounds_toArray, List.set_cons_zero, List.set_cons_succ, i64_w, i32_w]
  rfl
 refine one_ (i := 31) (N := some 58) #[tt_,tt_,tt_,tt_,tt_,tt_,tt_,tt_,tt_,tt_,tt_,tt_,tt_,tt_,tt_,tt_,tt_,tt_,tt_,tt_,tt_,tt_,tt_,tt_,tt_,tt_,tt_,tt_,tt_,tt_,tt_,tt_,ff_,ff_] rfl rfl (by kernel_rfl) (by decide) (fun K hK => ?_)
 refine goes_ Try.func18 (by kernel_rfl) rfl #[.agg #[.int .i64 1, .int .i64 1, .slice Au 1 cu], .agg #[.int .i64 1, .int .i64 1, .slice (some ⟨gv, 0, none⟩) 1 1]] (by rfl) rfl rfl (by (try simp only [List.map_toArray, List.map_cons, List.map_nil]); rfl) ?_
 refine (same1_k Lu_111.out Lv_111.out).mono ?_
 rintro e w112 ⟨rfl, hb⟩
 refine ⟨_, rfl, ?_⟩
 have B_112 := Aside0.mk (below_step B_111.out hb)
 have DR_112 := Aside0.mk (blk_below DR_111.out hb)
 have DE_112 := Aside0.mk (blk_below DE_111.out hb)
 have DS_112 := Aside0.mk (blk_below DS_111.out hb)
 have DU_112 := Aside0.mk (blk_below DU_111.out hb)
 have Lr_112 := Aside0.mk (Lr_111.out.below hb)
 have Le_112 := Aside0.mk (Le_111.out.below hb)
 have Ls_112 := Aside0.mk (Ls_111.out.below hb)
 have Lu_112 := Aside0.mk (Lu_111.out.below hb)
 have Lv_112 := Aside0.mk (Lv_111.out.below hb)
 clear DR_111 DE_111 DS_111 DU_111 Lr_111 Le_111 Ls_111 Lu_111 Lv_111
 clear hb
 refine hK.out _ _ ⟨(blk_cell DR_112.out 0).trans rfl, (blk_cell DR_112.out 1).trans rfl, (blk_cell DR_112.out 2).trans rfl, (blk_cell DE_112.out 0).trans rfl, (blk_cell DE_112.out 1).trans rfl, (blk_cell DE_112.out 2).trans rfl, (blk_cell DS_112.out 0).trans rfl, (blk_cell DS_112.out 1).trans rfl, (blk_cell DS_112.out 2).trans rfl, (blk_cell DU_112.out 0).trans rfl, (blk_cell DU_112.out 1).trans rfl, (blk_cell DU_112.out 2).trans rfl⟩ (fun hHeld => ?_)
 clear hK K
 refine norm_ (a' := ?_) ?_ ?_
 rotate_left
 ·show Act.put _ (some 58) _ = _
  simp only [Act.put, List.setIfInBounds_toArray, List.set_cons_zero, List.set_cons_succ, i64_w, i32_w]
  rfl
 refine pure_ (i := 32) (N := some 59) (v := ?_) (a' := ?_) #[tt_,tt_,tt_,tt_,tt_,tt_,tt_,tt_,tt_,tt_,tt_,tt_,tt_,tt_,tt_,tt_,tt_,tt_,tt_,tt_,tt_,tt_,tt_,tt_,tt_,tt_,tt_,tt_,tt_,tt_,tt_,tt_,tt_,ff_] rfl rfl (by kernel_rfl) (fun _ _ _ h => h) (Or.inl ⟨by rfl, ?_⟩) ?_ ?_
 rotate_left
 ·intro w'
  go_simp
  with_reducible rfl
 rotate_left
 ·simp only [Act.put, List.setIfInBounds_toArray, List.set_cons_zero, List.set_cons_succ, i64_w, i32_w]
  rfl
 refine pure_ (i := 33) (N := some 0) (v := ?_) (a' := ?_) #[tt_,tt_,tt_,tt_,tt_,tt_,tt_,tt_,tt_,tt_,tt_,tt_,tt_,tt_,tt_,tt_,tt_,tt_,tt_,tt_,tt_,tt_,tt_,tt_,tt_,tt_,tt_,tt_,tt_,tt_,tt_,tt_,tt_,tt_] rfl rfl (by kernel_rfl) (fun _ _ _ h => h) (Or.inl ⟨by rfl, ?_⟩) ?_ ?_
 rotate_left
 ·intro w'
  go_simp
  with_reducible rfl
 rotate_left
 ·simp only [Act.put, List.setIfInBounds_toArray, List.set_cons_zero, List.set_cons_succ, i64_w, i32_w]
  rfl
 refine done_ (by kernel_rfl) ?_
 go_wp2
 go_ret
 exact ⟨rfl, B_112.out⟩
end Go.Proofs.Ytodlgdpkadkjjaa.A
end
section
set_option linter.unusedVariables false
set_option linter.unusedSimpArgs false
namespace Go.Proofs.Ytodlgdpkadkjjaa.A
open Go.RowKit Go.Shelf Go.Proofs.YtodlgdpkadkjjaaW.PrintWords Go.Proofs.YtodlgdpkadkjjaaW.PrintLast Go.Proofs.YtodlgdpkadkjjaaW.PrintMore Go.Proofs.Ytodlgdpkadkjjaa.PPyramidLevels

theorem wf32 {a : Int} (h : (Lit.int .u32 a).wf = true) : ∃ n : Nat, a = n ∧ n < 4294967296 := by
 have : 0 ≤ a ∧ a < 4294967296 := by
  simp only [Lit.wf, Bool.and_eq_true, decide_eq_true_eq, show IntKind.u32.min = 0 from rfl, show IntKind.u32.max = 4294967295 from rfl] at h
  omega
 exact ⟨a.toNat, by omega, by omega⟩
theorem natRow {k : IntKind} {m : Nat} (hm0 : 0 < m) (hk : ∀ a, (Lit.int k a).wf = true → ∃ n : Nat, a = n ∧ n < m) {w : World} {a : Option Addr} {len cap : Nat} {zs : List Int} (h : (a = none ∧ len = 0 ∧ cap = 0 ∧ zs = []) ∨ ∃ x, a = some x ∧ len ≤ cap ∧ cap ≤ maxLen ∧ zs.length = cap ∧ (∀ i, i < zs.length → w.cell? (x.add i) = some (.int k (zs.getD i 0))) ∧ ∀ n ∈ zs, (Lit.int k n).wf = true) :
    ∃ xs : List Nat, len = xs.length ∧ (nat k).C w a xs.length xs ∧ xs.length ≤ cap ∧ ∀ i, gt xs i < m := by
 obtain ⟨l, rfl, hr, hm, hw, hc⟩ := ReadsInt.ofRowC h
 refine ⟨l.map Int.toNat, by simp, ?_, by simpa using hc, ?_⟩
 ·refine Kd.C_of_reads (d := 0) ⟨rfl, by simpa using hr.2.1, fun hp => ?_⟩
  obtain ⟨ad, e, hx⟩ := hr.2.2 (by simpa using hp)
  refine ⟨ad, e, fun j hj => ?_⟩
  have hj' : j < l.length := by simpa using hj
  obtain ⟨n, hn, _⟩ := hk (l.getD j 0) (hw _ (by rw [List.getD_eq_getElem?_getD, List.getElem?_eq_getElem hj']; exact List.getElem_mem hj'))
  rw [hx j hj', hn]
  rw [List.getD_eq_getElem?_getD, List.getElem?_eq_getElem hj'] at hn
  simp only [Option.getD_some] at hn
  simp [List.getElem?_eq_getElem hj', hn]
 ·intro i
  unfold gt
  rw [List.getD_eq_getElem?_getD, List.getElem?_map]
  by_cases hi : i < l.length
  ·obtain ⟨n, hn, hlt⟩ := hk l[i] (hw _ (List.getElem_mem hi))
   rw [List.getElem?_eq_getElem hi, hn]
   simpa using hlt
  ·rw [List.getElem?_eq_none (by omega)]; exact hm0
section
variable {ops : Array Oper} {Q : Exit → Act → World → Prop} {o : Oper} {rest : List Oper} {a : Act}
/-- a plane is loaded out of its box, guarded or not -/
theorem loadP_g {W : World} {p : Operand} (ho : o.op = .load 25 p) (hw : Region.wanted o (yielded ops a.tmps) = true) (g : Nat) (x y z : Value) (hp : a.eval p = .pointer (some ⟨g, 0, none⟩)) (hg : W.heap[g]? = some (.cells #[x, y, z] 25 (0, 0)))
    (h : wpList Try.prog ops Q rest (a.put o.dst (.agg #[x, y, z])) W) : wpList Try.prog ops Q (o :: rest) a W := by
 refine wpList_step fun K hK => ?_
 rw [if_pos hw]
 have hu25 := Try.underlying25
 have p0 := (blk_cell hg 0).trans rfl
 have p1 := (blk_cell hg 1).trans rfl
 have p2 := (blk_cell hg 2).trans rfl
 have hr : (execOp a.eval o).run Try.prog W = .ok (.value (.agg #[x, y, z])) W := by
  unfold execOp
  simp only [ho, hp]
  go_simp
 unfold Oper.wp
 rw [hr]
 exact hK _ _ h
end
section
variable {W H n c : Nat} {A : Option Addr} {xs : List Nat} {w : World}
end
end Go.Proofs.Ytodlgdpkadkjjaa.A
end
section
set_option linter.unusedVariables false
set_option linter.unusedSimpArgs false
namespace Go.Proofs.Ytodlgdpkadkjjaa.A
open Go.RowKit Go.Shelf Go.Proofs.YtodlgdpkadkjjaaW.PrintWords Go.Proofs.YtodlgdpkadkjjaaW.PrintLast Go.Proofs.YtodlgdpkadkjjaaW.PrintMore Go.Proofs.Ytodlgdpkadkjjaa.PPyramidLevels
theorem Ow.apart {w : World} {B n c : Nat} {A : Option Addr} {xs : List Nat} {hs : List Hd} (h : Ow .u32 50 w B (.slice A n c) xs) (ha : ∀ r, B ≤ r → Apart hs r) : ∀ ad, A = some ad → Apart hs ad.block := by
 rcases h with ⟨h, _⟩ | ⟨r, cap, cur, e, h1, _⟩
 ·injection h with h _ _
  intro ad hA
  rw [h] at hA
  cases hA
 ·injection e with e _ _
  intro ad hA
  rw [e] at hA
  injection hA with hA
  subst hA
  exact ha _ h1
theorem Out_as {f : FuncId} {args : Array Value} {w : World} {o : PO} {ax ay : Int} {al : List Nat} {ae : Nat} (h : Calls Try.prog f args w (Out1 w o)) (e : o = ⟨ax, ay, al, ae⟩) :
    Calls Try.prog f args w fun e w' => ∃ A n c, e = .returned (.tuple #[.agg #[.int .i64 ax, .int .i64 ay, .slice A n c], .int .i64 (ae : Int)]) ∧ Ow .u32 50 w' w.heap.size (.slice A n c) al ∧ n = al.length ∧ PL w' A n c al ∧ Below w.heap.size w w' := by
 subst e
 refine h.mono ?_
 rintro e w' ⟨v, rfl, hO, hb⟩
 obtain ⟨A, n, c, rfl, hn, hL⟩ := hO.PL
 exact ⟨A, n, c, rfl, hO, hn, hL, hb⟩
theorem Ow.asPL {w : World} {B n c : Nat} {A : Option Addr} {xs : List Nat} (h : Ow .u32 50 w B (.slice A n c) xs) : Go.Proofs.Ytodlgdpkadkjjaa.A.PL w A n c xs := by
 obtain ⟨A', n', c', e, hn, hL⟩ := h.PL
 injection e with e1 e2 e3
 subst e1 e2 e3
 exact hL
theorem Ow.ne {w : World} {B n c g : Nat} {A : Option Addr} {xs : List Nat} (h : Ow .u32 50 w B (.slice A n c) xs) (hg : g < B) : ∀ ad, A = some ad → 0 < n → ad.block ≠ g := by
 rcases h with ⟨h, _⟩ | ⟨r, cap, cur, e, h1, _⟩
 ·injection h with h _ _
  intro ad hA
  rw [h] at hA
  cases hA
 ·injection e with e _ _
  intro ad hA _
  rw [e] at hA
  injection hA with hA
  subst hA
  show r ≠ g
  omega

end Go.Proofs.Ytodlgdpkadkjjaa.A
end
section
set_option linter.unusedVariables false
set_option linter.unusedSimpArgs false
namespace Go.Proofs.Ytodlgdpkadkjjaa.A
open Go.RowKit Go.Shelf Go.Proofs.YtodlgdpkadkjjaaW.PrintWords Go.Proofs.YtodlgdpkadkjjaaW.PrintLast Go.Proofs.YtodlgdpkadkjjaaW.PrintMore Go.Proofs.Ytodlgdpkadkjjaa.PPyramidLevels
theorem rKey_calls (d : Nat) (w : World) (h : d < 4294967296) : Calls Try.prog 64 #[.int .u32 (d : Int)] w fun e w' => e = .returned (.int .u32 ((key d : Nat) : Int)) ∧ Below w.heap.size w w' := by
 refine (halideref1_Key.calls (d : Int) ((key d : Nat) : Int) w ?_).mono (fun e w' h => ⟨h.1, h.2.below⟩)
 unfold halideref1_Key.f key
 rw [w64 (by omega) (by omega)]
 by_cases c : d < 2147483648
 ·rw [if_pos (by omega), if_pos c, w64 (by omega) (by omega)]; exact congrArg some (by omega)
 ·rw [if_neg (by omega), if_neg c, w64 (by omega) (by omega)]; exact congrArg some (by omega)
theorem rFromKey_calls (d : Nat) (w : World) (h : d < 4294967296) : Calls Try.prog 65 #[.int .u32 (d : Int)] w fun e w' => e = .returned (.int .u32 ((fromKey d : Nat) : Int)) ∧ Below w.heap.size w w' := by
 refine (halideref1_FromKey.calls (d : Int) ((fromKey d : Nat) : Int) w ?_).mono (fun e w' h => ⟨h.1, h.2.below⟩)
 unfold halideref1_FromKey.f fromKey
 rw [w64 (by omega) (by omega)]
 by_cases c : 2147483648 ≤ d
 ·rw [if_pos (by omega), if_pos c, w64 (by omega) (by omega)]; exact congrArg some (by omega)
 ·rw [if_neg (by omega), if_neg c, w64 (by omega) (by omega)]; exact congrArg some (by omega)
/-- the first i places laid -/
def layTo (f : Nat → Nat) (n i : Nat) : List Nat := (List.range n).map (fun j => if j < i then f j else 0)
theorem layTo_length (f : Nat → Nat) (n i : Nat) : (layTo f n i).length = n := by simp [layTo]
theorem gt_layTo {f : Nat → Nat} {n i j : Nat} (hj : j < n) : gt (layTo f n i) j = if j < i then f j else 0 := by
 rw [gt, List.getD_eq_getElem?_getD, layTo, List.getElem?_map, List.getElem?_range hj]; rfl
theorem layTo_zero (f : Nat → Nat) (n : Nat) : layTo f n 0 = List.replicate n 0 := by
 refine gt_ext (by rw [layTo_length, List.length_replicate]) fun i hi => ?_
 rw [layTo_length] at hi
 rw [gt_layTo hi, if_neg (by omega)]
 unfold gt
 rw [List.getD_eq_getElem?_getD, List.getElem?_replicate, if_pos hi]; rfl
theorem layTo_succ (f : Nat → Nat) {n i : Nat} (hi : i < n) : (layTo f n i).set i (f i) = layTo f n (i + 1) := by
 refine gt_ext (by rw [List.length_set, layTo_length, layTo_length]) fun j hj => ?_
 rw [List.length_set, layTo_length] at hj
 rw [gt_set, gt_layTo hj, gt_layTo hj, layTo_length]
 by_cases e : i = j
 ·subst e; rw [if_pos ⟨rfl, hi⟩, if_pos (by omega)]
 ·rw [if_neg (fun h => e h.1)]
  by_cases h2 : j < i
  ·rw [if_pos h2, if_pos (by omega)]
  ·rw [if_neg h2, if_neg (by omega)]
theorem layTo_zip (f : Nat → Nat → Nat) (ps es : List Nat) {n : Nat} (h : es.length = n) : layTo (fun j => f (gt ps j) (gt es j)) n n = zipN f ps es := by
 refine gt_ext (by rw [layTo_length, zipN_length, h]) fun j hj => ?_
 rw [layTo_length] at hj
 rw [gt_layTo hj, gt_zipN (by rw [h]; exact hj), if_pos hj]
theorem Ow.lo {w : World} {B n c : Nat} {A : Option Addr} {xs : List Nat} (h : Ow .u32 50 w B (.slice A n c) xs) : ∀ ad, A = some ad → B ≤ ad.block := by
 rcases h with ⟨h, _⟩ | ⟨r, cap, cur, e, h1, _⟩
 ·injection h with h _ _
  intro ad hA
  rw [h] at hA
  cases hA
 ·injection e with e _ _
  intro ad hA
  rw [e] at hA
  injection hA with hA
  subst hA
  exact h1
set_option maxHeartbeats 4000000 in
set_option maxRecDepth 100000 in
theorem rSplit_bad (x y : Int) (A : Option Addr) (n cap : Nat) (p : List Nat) (w : World) (hx : PL w A n cap p) (hn : n < 9223372036854775808) (hE : checkE x y n ≠ 0) :
    Calls Try.prog 31 #[.agg #[.int .i64 x, .int .i64 y, .slice A n cap]] w fun e w' => e = .returned (.tuple #[.agg #[.int .i64 0, .int .i64 0, .slice none 0 0], .agg #[.int .i64 0, .int .i64 0, .slice none 0 0], .int .i64 ((checkE x y n : Nat) : Int)]) ∧ Below w.heap.size w w' := by
 have hu25 := Try.underlying25
 obtain ⟨c, hc⟩ : ∃ c, checkE x y n = c := ⟨_, rfl⟩
 have HE2 := Aside0.mk hE
 have HE := Aside0.mk hc
 have HNL := Aside0.mk hn
 have Lx_0 := Aside0.mk hx
 rw [hc] at hE ⊢
 have t1 : ((c : Int) != 0) = true := by rw [bne_iff_ne]; omega
 clear hc hn hE hx
 have B_0 : Aside0 (Below w.heap.size w w) := ⟨Below.refl _ _⟩
 go_enter Try.func31, Try.ntmps31
 go_wp2_with (first | ((with_reducible refine gate_store (p := 5) rfl ?_); refine storeP_event rfl rfl rfl g5 0 0 none 0 0 _ _ _ rfl rfl ZC.out ?_; intro w5 hm_ hst_ hbl_; have BL4_2 := Aside0.mk (BL4_1.out.trans (hbl_ _ GGC.out)); have ZC_ := Aside0.mk hm_; have B_5 := Aside0.mk (below_step B_4.out BL4_2.out); have DX_5 := Aside0.mk (blk_below DX_4.out BL4_2.out); have DR_5 := Aside0.mk (blk_below DR_4.out BL4_2.out); have DS_5 := Aside0.mk (blk_below DS_4.out BL4_2.out); have Lx_5 := Aside0.mk (Lx_4.out.below BL4_2.out); clear DX_4 DR_4 DS_4 Lx_4; have DC_5 := Aside0.mk (ZC_.out); clear ZC_ ZC BL4_1 BL4_2; clear hm_ hst_ hbl_) | ((with_reducible refine gate_dst (N := 5) rfl ?_); refine box_event ?hg (N := 5) ?hd (cs := #[.int .i64 0, .int .i64 0, .slice none 0 0]) (t := 25) ?hr ?_; (case hd => rfl); (case hg => rfl); (case hr => first | (go_simp; done) | (go_simp; rfl)); intro g5 hg_ w4_1 hm_ hb_; have BL4_1 := Aside0.mk (hb_); have ZC := Aside0.mk (hm_); have GGC := Aside0.mk (show w4.heap.size ≤ g5 by rw [hg_]; exact Nat.le_refl _); clear hm_ hb_ hg_) | (go_at_call 14; have hkey := B_3; clear hkey; refine (rReduce_bad x y A n cap _ HNL.out HE2.out).mono ?_; rw [HE.out]; rintro e w4 ⟨rfl, hb⟩; have B_4 := Aside0.mk (below_step B_3.out hb); have DX_4 := Aside0.mk (blk_below DX_3.out hb); have DR_4 := Aside0.mk (blk_below DR_3.out hb); have DS_4 := Aside0.mk (blk_below DS_3.out hb); have Lx_4 := Aside0.mk (Lx_3.out.below hb); clear DX_3 DR_3 DS_3 Lx_3; clear p0 p1 p2; clear hb) | ((with_reducible refine gate_dst (N := 3) rfl ?_); refine box_event ?hg (N := 3) ?hd (cs := #[.int .i64 0, .int .i64 0, .slice none 0 0]) (t := 25) ?hr ?_; (case hd => rfl); (case hg => rfl); (case hr => first | (go_simp; done) | (go_simp; rfl)); intro gS hg_ w3 hm_ hb_; have GS := Aside0.mk (show w.heap.size ≤ gS by rw [hg_]; exact B_2.out.size); have NXS := Aside0.mk (show gX ≠ gS by rw [hg_]; have := blk_lt DX_2.out; omega); have NRS := Aside0.mk (show gR ≠ gS by rw [hg_]; have := blk_lt DR_2.out; omega); have B_3 := Aside0.mk (below_step B_2.out hb_); have DX_3 := Aside0.mk (blk_below DX_2.out hb_); have DR_3 := Aside0.mk (blk_below DR_2.out hb_); have Lx_3 := Aside0.mk (Lx_2.out.below hb_); clear DX_2 DR_2 Lx_2; have DS_3 := Aside0.mk (hm_); clear hm_ hb_ hg_; have p0 := (blk_cell DX_3.out 0).trans rfl; have p1 := (blk_cell DX_3.out 1).trans rfl; have p2 := (blk_cell DX_3.out 2).trans rfl) | ((with_reducible refine gate_dst (N := 2) rfl ?_); refine box_event ?hg (N := 2) ?hd (cs := #[.int .i64 0, .int .i64 0, .slice none 0 0]) (t := 25) ?hr ?_; (case hd => rfl); (case hg => rfl); (case hr => first | (go_simp; done) | (go_simp; rfl)); intro gR hg_ w2 hm_ hb_; have GR := Aside0.mk (show w.heap.size ≤ gR by rw [hg_]; exact B_1.out.size); have NXR := Aside0.mk (show gX ≠ gR by rw [hg_]; have := blk_lt DX_1.out; omega); have B_2 := Aside0.mk (below_step B_1.out hb_); have DX_2 := Aside0.mk (blk_below DX_1.out hb_); have Lx_2 := Aside0.mk (Lx_1.out.below hb_); clear DX_1 Lx_1; have DR_2 := Aside0.mk (hm_); clear hm_ hb_ hg_) | ((with_reducible refine gate_dst (N := 1) rfl ?_); refine box_event ?hg (N := 1) ?hd (cs := #[.int .i64 x, .int .i64 y, .slice A n cap]) (t := 25) ?hr ?_; (case hd => rfl); (case hg => rfl); (case hr => first | (go_simp; done) | (go_simp; rfl)); intro gX hg_ w1 hm_ hb_; have B_1 := Aside0.mk (below_step B_0.out hb_); have Lx_1 := Aside0.mk (Lx_0.out.below hb_); clear Lx_0; have DX_1 := Aside0.mk (hm_); clear hm_ hb_ hg_) | ((with_reducible refine gate_store (p := 2) rfl ?_); refine storeP_event rfl rfl rfl gR 0 0 none 0 0 _ _ _ rfl rfl DR_5.out ?_; intro w50 hm_ hst_ hbl_; have R50 := Aside0.mk (hm_); have S50 := Aside0.mk ((hst_ gS NRS.out.symm).trans DS_5.out); have B50 := Aside0.mk (B_5.out.trans (hbl_ _ GR.out)); clear hm_ hst_ hbl_) | ((with_reducible refine gate_store (p := 3) rfl ?_); refine storeP_event rfl rfl rfl gS 0 0 none 0 0 _ _ _ rfl rfl S50.out ?_; intro w51 hm_ hst_ hbl_; have S51 := Aside0.mk (hm_); have R51 := Aside0.mk ((hst_ gR NRS.out).trans R50.out); have B51 := Aside0.mk (B50.out.trans (hbl_ _ GS.out)); clear hm_ hst_ hbl_))
 refine bodyPost_ret (results_cct rfl _ _ gR gS 25 25 #[.int .i64 0, .int .i64 0, .slice none 0 0] #[.int .i64 0, .int .i64 0, .slice none 0 0] (0, 0) (0, 0) _ _ rfl R51.out Try.underlying25 rfl (by kernel_rfl) rfl S51.out Try.underlying25 rfl (by kernel_rfl)) rfl ?_
 exact ⟨rfl, B51.out⟩
set_option maxHeartbeats 8000000 in
set_option maxRecDepth 100000 in
theorem rSplit_ok (W H : Nat) (p : List Nat) (A : Option Addr) (n cap : Nat) (w : World) (hp : (Pl.mk W H p).ok) (hx : PL w A n cap p) :
    Calls Try.prog 31 #[.agg #[.int .i64 (W : Int), .int .i64 (H : Int), .slice A n cap]] w fun e w' => ∃ v u, e = .returned (.tuple #[.agg #[.int .i64 ((hf W : Nat) : Int), .int .i64 ((hf H : Nat) : Int), v], .agg #[.int .i64 (W : Int), .int .i64 (H : Int), u], .int .i64 0]) ∧ (nat .u32).R 50 w' w.heap.size (fun _ => True) v (redS W H p) ∧ (nat .u32).R 50 w' w.heap.size (fun _ => True) u (finS W H p) ∧ Below w.heap.size w w' := by
 have hu25 := Try.underlying25
 have HP := Aside0.mk hp
 have HQ := Aside0.mk (red_ok hp)
 obtain ⟨p1, p2, p3, p4, p5, p6, p7⟩ := hp
 have p1 : 0 < W := p1
 have p2 : 0 < H := p2
 have p3 : W ≤ 1024 := p3
 have p4 : H ≤ 1024 := p4
 have p5 : W * H ≤ 65536 := p5
 have p6 : p.length = W * H := p6
 have hnn : n = W * H := hx.2.2.symm.trans p6
 have HNW : Aside0 (W * H = n) := ⟨hnn.symm⟩
 have HNB : Aside0 (0 < n ∧ n ≤ 65536) := ⟨by rw [hnn]; exact ⟨Nat.mul_pos p1 p2, p5⟩⟩
 have HWH := Aside0.mk p5
 have HXX := Aside0.mk p7
 have HSZ : Aside0 (0 < W ∧ 0 < H ∧ W ≤ 1024 ∧ H ≤ 1024 ∧ W * H ≤ 65536) := ⟨⟨p1, p2, p3, p4, p5⟩⟩
 have Lx_0 := Aside0.mk hx
 obtain ⟨rs, hrs⟩ : ∃ rs, redS W H p = rs := ⟨_, rfl⟩
 obtain ⟨es, hes⟩ : ∃ es, expS (hf W) (hf H) W H rs = es := ⟨_, rfl⟩
 have hel : es.length = n := by rw [← hes, expS_length, hnn]
 have HEL := Aside0.mk hel
 have HEX : Aside0 (∀ i, gt es i < 4294967296) := ⟨by rw [← hes, ← hrs]; exact expS_lt (red_ok HP.out) p3 p4⟩
 have HFS : Aside0 (layTo (fun j => difA (gt p j) (gt es j)) n n = finS W H p) := ⟨by rw [layTo_zip difA p es hel]; unfold finS; rw [hrs, hes]⟩
 have HRS := Aside0.mk hrs
 have HES := Aside0.mk hes
 rw [hrs] at HQ ⊢
 rw [← HFS.out]
 clear p1 p2 p3 p4 p5 p6 p7 hx hrs hes hel hnn HFS
 have B_0 : Aside0 (Below w.heap.size w w) := ⟨Below.refl _ _⟩
 go_enter Try.func31, Try.ntmps31
 go_wp2_with (first | ((with_reducible refine gate_store (p := 9) rfl ?_); refine storeP_event rfl rfl rfl g9 (W : Int) (H : Int) (some ⟨go, 0, none⟩) n5 co _ _ _ rfl rfl ZF.out ?_; intro w9 hm_ hst_ hbl_; have BL8_2 := Aside0.mk (BL8_1.out.trans (hbl_ _ GGF.out)); have ZF_ := Aside0.mk hm_; have B_9 := Aside0.mk (below_step B_8.out BL8_2.out); have DX_9 := Aside0.mk (blk_below DX_8.out BL8_2.out); have DR_9 := Aside0.mk (blk_below DR_8.out BL8_2.out); have DS_9 := Aside0.mk (blk_below DS_8.out BL8_2.out); have DC_9 := Aside0.mk (blk_below DC_8.out BL8_2.out); have DE_9 := Aside0.mk (blk_below DE_8.out BL8_2.out); have Lx_9 := Aside0.mk (Lx_8.out.below BL8_2.out); have Lc_9 := Aside0.mk (Lc_8.out.below BL8_2.out); have Le_9 := Aside0.mk (Le_8.out.below BL8_2.out); have V_9 := Aside0.mk (Kd.R_below V_8.out BL8_2.out); have BQ_9 := Aside0.mk (below_step BQ_8.out BL8_2.out); have U_9 := Aside0.mk (Kd.R_below U_8.out BL8_2.out); clear DX_8 DR_8 DS_8 DC_8 DE_8 Lx_8 Lc_8 Le_8 V_8 BQ_8 U_8; have DF_9 := Aside0.mk (ZF_.out); clear ZF_ ZF BL8_1 BL8_2; clear hm_ hst_ hbl_) | ((with_reducible refine gate_dst (N := 9) rfl ?_); refine box_event ?hg (N := 9) ?hd (cs := #[.int .i64 0, .int .i64 0, .slice none 0 0]) (t := 25) ?hr ?_; (case hd => rfl); (case hg => rfl); (case hr => first | (go_simp; done) | (go_simp; rfl)); intro g9 hg_ w8_1 hm_ hb_; have BL8_1 := Aside0.mk (hb_); have ZF := Aside0.mk (hm_); have NRF := Aside0.mk (show g9 ≠ gR by rw [hg_]; have := blk_lt DR_8.out; omega); have GGF := Aside0.mk (show w8.heap.size ≤ g9 by rw [hg_]; exact Nat.le_refl _); clear hm_ hb_ hg_) | (go_at_call 48; have hkey := B_7; clear hkey; refine (rBlank_calls _ HWH.out).mono ?_; rintro e w8 ⟨v9, rfl, hR, hb⟩; have QX := Aside0.mk (DX_7.out); have QR := Aside0.mk (DR_7.out); have QS := Aside0.mk (DS_7.out); have QC := Aside0.mk (DC_7.out); have QE := Aside0.mk (DE_7.out); have QLx := Aside0.mk (Lx_7.out); have QLc := Aside0.mk (Lc_7.out); have QLe := Aside0.mk (Le_7.out); have QV := Aside0.mk (V_7.out); have QB := Aside0.mk (B_7.out); clear p0 p1; obtain ⟨go, co, hv9, hgo, hlt9, hty9⟩ := Kd.R_form hR (by rw [List.length_replicate, HNW.out]; exact HNB.out.1); rw [List.length_replicate, HNW.out] at hv9; subst hv9; have GO := Aside0.mk (show w7.heap.size ≤ go from hgo); have BQ_8 := Aside0.mk (hb); have U_8 := Aside0.mk (hR); have B_8 := Aside0.mk (below_step B_7.out hb); have DX_8 := Aside0.mk (blk_below DX_7.out hb); have DR_8 := Aside0.mk (blk_below DR_7.out hb); have DS_8 := Aside0.mk (blk_below DS_7.out hb); have DC_8 := Aside0.mk (blk_below DC_7.out hb); have DE_8 := Aside0.mk (blk_below DE_7.out hb); have Lx_8 := Aside0.mk (Lx_7.out.below hb); have Lc_8 := Aside0.mk (Lc_7.out.below hb); have Le_8 := Aside0.mk (Le_7.out.below hb); have V_8 := Aside0.mk (Kd.R_below V_7.out hb); clear DX_7 DR_7 DS_7 DC_7 DE_7 Lx_7 Lc_7 Le_7 V_7; clear hR hgo hlt9 hty9; clear hb) | ((with_reducible refine gate_store (p := 7) rfl ?_); refine storeP_event rfl rfl rfl g7 (W : Int) (H : Int) A5 n5 c5 _ _ _ rfl rfl ZE.out ?_; intro w7 hm_ hst_ hbl_; have BL6_2 := Aside0.mk (BL6_1.out.trans (hbl_ _ GGE.out)); have ZE_ := Aside0.mk hm_; have B_7 := Aside0.mk (below_step B_6.out BL6_2.out); have DX_7 := Aside0.mk (blk_below DX_6.out BL6_2.out); have DR_7 := Aside0.mk (blk_below DR_6.out BL6_2.out); have DS_7 := Aside0.mk (blk_below DS_6.out BL6_2.out); have DC_7 := Aside0.mk (blk_below DC_6.out BL6_2.out); have Lx_7 := Aside0.mk (Lx_6.out.below BL6_2.out); have Lc_7 := Aside0.mk (Lc_6.out.below BL6_2.out); have Le_7 := Aside0.mk (Le_6.out.below BL6_2.out); have V_7 := Aside0.mk (Kd.R_below V_6.out BL6_2.out); clear DX_6 DR_6 DS_6 DC_6 Lx_6 Lc_6 Le_6 V_6; have DE_7 := Aside0.mk (ZE_.out); clear ZE_ ZE BL6_1 BL6_2; clear hm_ hst_ hbl_; have p0 := (blk_cell DX_7.out 0).trans rfl; have p1 := (blk_cell DX_7.out 1).trans rfl) | ((with_reducible refine gate_dst (N := 7) rfl ?_); refine box_event ?hg (N := 7) ?hd (cs := #[.int .i64 0, .int .i64 0, .slice none 0 0]) (t := 25) ?hr ?_; (case hd => rfl); (case hg => rfl); (case hr => first | (go_simp; done) | (go_simp; rfl)); intro g7 hg_ w6_1 hm_ hb_; have BL6_1 := Aside0.mk (hb_); have ZE := Aside0.mk (hm_); have GGE := Aside0.mk (show w6.heap.size ≤ g7 by rw [hg_]; exact Nat.le_refl _); clear hm_ hb_ hg_) | (go_at_call 15; have hkey := B_5; clear hkey; refine (rExpand_ok (hf W) (hf H) rs A4 n4 c4 W H _ HQ.out Lc_5.out HSZ.out rfl rfl).mono ?_; rw [HES.out]; rintro e w6 ⟨v5, rfl, hR, hb⟩; clear p0 p1; obtain ⟨A5, n5, c5, rfl, hL5⟩ := PL.of hR; have hn5 : n5 = n := hL5.2.2.symm.trans HEL.out; subst hn5; have B_6 := Aside0.mk (below_step B_5.out hb); have DX_6 := Aside0.mk (blk_below DX_5.out hb); have DR_6 := Aside0.mk (blk_below DR_5.out hb); have DS_6 := Aside0.mk (blk_below DS_5.out hb); have DC_6 := Aside0.mk (blk_below DC_5.out hb); have Lx_6 := Aside0.mk (Lx_5.out.below hb); have Lc_6 := Aside0.mk (Lc_5.out.below hb); have V_6 := Aside0.mk (Kd.R_below V_5.out hb); clear DX_5 DR_5 DS_5 DC_5 Lx_5 Lc_5 V_5; have Le_6 := Aside0.mk (hL5); clear hR; clear hb hL5) | ((with_reducible refine gate_dst (N := 22) rfl ?_); refine loadP_g rfl ?hw g5 _ _ _ rfl DC_5.out ?_; (case hw => rfl)) | ((with_reducible refine gate_store (p := 5) rfl ?_); refine storeP_event rfl rfl rfl g5 ((hf W : Nat) : Int) ((hf H : Nat) : Int) A4 n4 c4 _ _ _ rfl rfl ZC.out ?_; intro w5 hm_ hst_ hbl_; have BL4_2 := Aside0.mk (BL4_1.out.trans (hbl_ _ GGC.out)); have ZC_ := Aside0.mk hm_; have B_5 := Aside0.mk (below_step B_4.out BL4_2.out); have DX_5 := Aside0.mk (blk_below DX_4.out BL4_2.out); have DR_5 := Aside0.mk (blk_below DR_4.out BL4_2.out); have DS_5 := Aside0.mk (blk_below DS_4.out BL4_2.out); have Lx_5 := Aside0.mk (Lx_4.out.below BL4_2.out); have Lc_5 := Aside0.mk (Lc_4.out.below BL4_2.out); have V_5 := Aside0.mk (Kd.R_below V_4.out BL4_2.out); clear DX_4 DR_4 DS_4 Lx_4 Lc_4 V_4; have DC_5 := Aside0.mk (ZC_.out); clear ZC_ ZC BL4_1 BL4_2; clear hm_ hst_ hbl_; have p0 := (blk_cell DX_5.out 0).trans rfl; have p1 := (blk_cell DX_5.out 1).trans rfl) | ((with_reducible refine gate_dst (N := 5) rfl ?_); refine box_event ?hg (N := 5) ?hd (cs := #[.int .i64 0, .int .i64 0, .slice none 0 0]) (t := 25) ?hr ?_; (case hd => rfl); (case hg => rfl); (case hr => first | (go_simp; done) | (go_simp; rfl)); intro g5 hg_ w4_1 hm_ hb_; have BL4_1 := Aside0.mk (hb_); have ZC := Aside0.mk (hm_); have NRC := Aside0.mk (show g5 ≠ gR by rw [hg_]; have := blk_lt DR_4.out; omega); have GGC := Aside0.mk (show w4.heap.size ≤ g5 by rw [hg_]; exact Nat.le_refl _); clear hm_ hb_ hg_) | (go_at_call 14; have hkey := B_3; clear hkey; refine (rReduce_ok W H p A n cap _ HP.out Lx_3.out).mono ?_; rw [HRS.out]; rintro e w4 ⟨v4, rfl, hR, hb⟩; clear p0 p1 p2; obtain ⟨A4, n4, c4, rfl, hL4⟩ := PL.of hR; have B_4 := Aside0.mk (below_step B_3.out hb); have DX_4 := Aside0.mk (blk_below DX_3.out hb); have DR_4 := Aside0.mk (blk_below DR_3.out hb); have DS_4 := Aside0.mk (blk_below DS_3.out hb); have Lx_4 := Aside0.mk (Lx_3.out.below hb); clear DX_3 DR_3 DS_3 Lx_3; have Lc_4 := Aside0.mk (hL4); have V_4 := Aside0.mk (Kd.R_lower hR B_3.out.size); clear hR; clear hb hL4) | ((with_reducible refine gate_dst (N := 3) rfl ?_); refine box_event ?hg (N := 3) ?hd (cs := #[.int .i64 0, .int .i64 0, .slice none 0 0]) (t := 25) ?hr ?_; (case hd => rfl); (case hg => rfl); (case hr => first | (go_simp; done) | (go_simp; rfl)); intro gS hg_ w3 hm_ hb_; have GS := Aside0.mk (show w.heap.size ≤ gS by rw [hg_]; exact B_2.out.size); have NXS := Aside0.mk (show gX ≠ gS by rw [hg_]; have := blk_lt DX_2.out; omega); have NRS := Aside0.mk (show gR ≠ gS by rw [hg_]; have := blk_lt DR_2.out; omega); have B_3 := Aside0.mk (below_step B_2.out hb_); have DX_3 := Aside0.mk (blk_below DX_2.out hb_); have DR_3 := Aside0.mk (blk_below DR_2.out hb_); have Lx_3 := Aside0.mk (Lx_2.out.below hb_); clear DX_2 DR_2 Lx_2; have DS_3 := Aside0.mk (hm_); clear hm_ hb_ hg_; have p0 := (blk_cell DX_3.out 0).trans rfl; have p1 := (blk_cell DX_3.out 1).trans rfl; have p2 := (blk_cell DX_3.out 2).trans rfl) | ((with_reducible refine gate_dst (N := 2) rfl ?_); refine box_event ?hg (N := 2) ?hd (cs := #[.int .i64 0, .int .i64 0, .slice none 0 0]) (t := 25) ?hr ?_; (case hd => rfl); (case hg => rfl); (case hr => first | (go_simp; done) | (go_simp; rfl)); intro gR hg_ w2 hm_ hb_; have GR := Aside0.mk (show w.heap.size ≤ gR by rw [hg_]; exact B_1.out.size); have NXR := Aside0.mk (show gX ≠ gR by rw [hg_]; have := blk_lt DX_1.out; omega); have B_2 := Aside0.mk (below_step B_1.out hb_); have DX_2 := Aside0.mk (blk_below DX_1.out hb_); have Lx_2 := Aside0.mk (Lx_1.out.below hb_); clear DX_1 Lx_1; have DR_2 := Aside0.mk (hm_); clear hm_ hb_ hg_) | ((with_reducible refine gate_dst (N := 1) rfl ?_); refine box_event ?hg (N := 1) ?hd (cs := #[.int .i64 (W : Int), .int .i64 (H : Int), .slice A n cap]) (t := 25) ?hr ?_; (case hd => rfl); (case hg => rfl); (case hr => first | (go_simp; done) | (go_simp; rfl)); intro gX hg_ w1 hm_ hb_; have B_1 := Aside0.mk (below_step B_0.out hb_); have Lx_1 := Aside0.mk (Lx_0.out.below hb_); clear Lx_0; have DX_1 := Aside0.mk (hm_); clear hm_ hb_ hg_))
 have M0 : Aside0 (M3 w7 g9 W H go n5 co w9 (List.replicate (W * H) 0)) := ⟨⟨U_9.out, DF_9.out, BQ_9.out⟩⟩
 rw [HNW.out] at M0
 have HL0 : Aside0 (List.replicate n5 0 = layTo (fun j => difA (gt p j) (gt es j)) n5 0) := ⟨(layTo_zero _ _).symm⟩
 obtain ⟨ys0, hys0⟩ : ∃ ys0, List.replicate n5 0 = ys0 := ⟨_, rfl⟩
 rw [hys0] at HL0 M0
 clear hys0 U_9 BQ_9
 go_loopw [10] (fun iv wr => ∃ (i : Nat) (ys : List Nat), i ≤ n5 ∧ iv = .int .i64 (i : Int) ∧ Aside0 (ys = layTo (fun j => difA (gt p j) (gt es j)) n5 i) ∧ Aside0 (M3 w7 g9 W H go n5 co wr ys)) (fun iv _ => n5 - (intOf iv).toNat)
 case atStart => exact ⟨0, ys0, Nat.zero_le _, rfl, HL0, M0⟩
 case round =>
  clear M0 HL0
  obtain ⟨i, ys, hi, rfl, HY, HM⟩ := hrel
  have z2 := (blk_cell HM.out.2.1 2).trans rfl
  by_cases hlt : i < n5
  ·have c1 : decide ((i : Int) < (n5 : Int)) = true := decide_eq_true (by omega)
   have i1 : ((i : Int) < (n5 : Int)) = True := eq_true (by omega)
   have hb1 := HNB.out.2
   obtain ⟨b, hb⟩ : ∃ b, gt es i = b := ⟨_, rfl⟩
   obtain ⟨a, ha⟩ : ∃ a, gt p i = a := ⟨_, rfl⟩
   have HA : Aside0 (a < 4294967296) := ⟨by rw [← ha]; exact HXX.out i⟩
   have HB : Aside0 (b < 4294967296) := ⟨by rw [← hb]; exact HEX.out i⟩
   obtain ⟨adp, hA, hxa⟩ := C_nat (Kd.C_below QLx.out.1 HM.out.2.2) i hlt
   subst hA
   rw [ha] at hxa
   obtain ⟨ade, hA, hxe⟩ := C_nat (Kd.C_below QLe.out.1 HM.out.2.2) i hlt
   subst hA
   rw [hb] at hxe
   obtain ⟨ka, hka⟩ : ∃ k, key a = k := ⟨_, rfl⟩
   obtain ⟨kb, hkb⟩ : ∃ k, key b = k := ⟨_, rfl⟩
   have HKA := Aside0.mk hka
   have HKB := Aside0.mk hkb
   obtain ⟨d, hd⟩ : ∃ d, difA a b = d := ⟨_, rfl⟩
   have e1 : IntKind.u32.wrap ((ka : Int) - (kb : Int)) = (d : Int) := by
    rw [← hd, ← hka, ← hkb]; unfold difA; simp only [IntKind.wrap_u32]; have := key_lt HA.out; have := key_lt HB.out; omega
   have HYS : Aside0 (ys.set i d = layTo (fun j => difA (gt p j) (gt es j)) n5 (i + 1)) := ⟨by rw [HY.out, ← layTo_succ _ hlt, ha, hb, hd]⟩
   have HLT := Aside0.mk hlt
   have HXA := Aside0.mk hxa
   have HXE := Aside0.mk hxe
   clear hb ha hka hkb hd hxa hxe
   go_upto_region 9 with (fail)
   have MM0 := Aside0.mk (M3_drew HM.out)
   have PP0 := Aside0.mk (blk_below QX.out MM0.out.2.2)
   have EE0 := Aside0.mk (blk_below QE.out MM0.out.2.2)
   have XX0 : Aside0 (wr.drew.cell? (adp.add i) = some (.int .u32 (a : Int))) := ⟨HXA.out⟩
   have XE0 : Aside0 (wr.drew.cell? (ade.add i) = some (.int .u32 (b : Int))) := ⟨HXE.out⟩
   clear z2 HM
   refine start_ (n := 18) (S := fun w' => w'.cell? ⟨g9, 2, none⟩ = some (.slice (some ⟨go, 0, none⟩) n5 co) ∧ w'.cell? ⟨gX, 2, none⟩ = some (.slice (some adp) n5 cap) ∧ w'.cell? (adp.add i) = some (.int .u32 (a : Int)) ∧ w'.cell? ⟨g7, 2, none⟩ = some (.slice (some ade) n5 c5) ∧ w'.cell? (ade.add i) = some (.int .u32 (b : Int))) (ds := [17]) #[ff_,ff_,ff_,ff_,ff_,ff_,ff_,ff_,ff_,ff_,ff_,ff_,ff_,ff_,ff_,ff_,ff_,ff_] (by kernel_rfl) rfl rfl ⟨(blk_cell MM0.out.2.1 2).trans rfl, (blk_cell PP0.out 2).trans rfl, XX0.out, (blk_cell EE0.out 2).trans rfl, XE0.out⟩ (fun hHeld => ?_)
   generalize wr.drew = w70 at *
   refine pure_ (i := 0) (N := some 42) (v := ?_) (a' := ?_) #[tt_,ff_,ff_,ff_,ff_,ff_,ff_,ff_,ff_,ff_,ff_,ff_,ff_,ff_,ff_,ff_,ff_,ff_] rfl rfl (by kernel_rfl) (fun _ _ _ h => h) (Or.inl ⟨by rfl, ?_⟩) ?_ ?_
   rotate_left
   ·intro w'
    go_simp
    with_reducible rfl
   rotate_left
   ·simp only [Act.put, List.setIfInBounds_toArray, List.set_cons_zero, List.set_cons_succ, i64_w, i32_w]
    rfl
   refine pure_ (i := 2) (N := some 44) (v := ?_) (a' := ?_) #[tt_,ff_,tt_,ff_,ff_,ff_,ff_,ff_,ff_,ff_,ff_,ff_,ff_,ff_,ff_,ff_,ff_,ff_] rfl rfl (by kernel_rfl) (fun _ _ _ h => h) (Or.inl ⟨by rfl, ?_⟩) ?_ ?_
   rotate_left
   ·intro w'
    go_simp
    with_reducible rfl
   rotate_left
   ·simp only [Act.put, List.setIfInBounds_toArray, List.set_cons_zero, List.set_cons_succ, i64_w, i32_w]
    rfl
   refine pure_ (i := 3) (N := some 45) (v := ?_) (a' := ?_) #[tt_,ff_,tt_,tt_,ff_,ff_,ff_,ff_,ff_,ff_,ff_,ff_,ff_,ff_,ff_,ff_,ff_,ff_] rfl rfl (by kernel_rfl) (fun _ _ _ h => h) (Or.inl ⟨by rfl, ?_⟩) ?_ ?_
   rotate_left
   ·intro w'
    go_simp
    with_reducible rfl
   rotate_left
   ·simp only [Act.put, List.setIfInBounds_toArray, List.set_cons_zero, List.set_cons_succ, i64_w, i32_w]
    rfl
   refine pure_ (i := 5) (N := some 47) (v := ?_) (a' := ?_) #[tt_,ff_,tt_,tt_,ff_,tt_,ff_,ff_,ff_,ff_,ff_,ff_,ff_,ff_,ff_,ff_,ff_,ff_] rfl rfl (by kernel_rfl) (fun _ _ _ h => h) (Or.inl ⟨by rfl, ?_⟩) ?_ ?_
   rotate_left
   ·intro w'
    go_simp
    with_reducible rfl
   rotate_left
   ·simp only [Act.put, List.setIfInBounds_toArray, List.set_cons_zero, List.set_cons_succ, i64_w, i32_w]
    rfl
   refine pure_ (i := 9) (N := some 51) (v := ?_) (a' := ?_) #[tt_,ff_,tt_,tt_,ff_,tt_,ff_,ff_,ff_,tt_,ff_,ff_,ff_,ff_,ff_,ff_,ff_,ff_] rfl rfl (by kernel_rfl) (fun _ _ _ h => h) (Or.inl ⟨by rfl, ?_⟩) ?_ ?_
   rotate_left
   ·intro w'
    go_simp
    with_reducible rfl
   rotate_left
   ·simp only [Act.put, List.setIfInBounds_toArray, List.set_cons_zero, List.set_cons_succ, i64_w, i32_w]
    rfl
   refine pure_ (i := 11) (N := some 53) (v := ?_) (a' := ?_) #[tt_,ff_,tt_,tt_,ff_,tt_,ff_,ff_,ff_,tt_,ff_,tt_,ff_,ff_,ff_,ff_,ff_,ff_] rfl rfl (by kernel_rfl) (fun _ _ _ h => h) (Or.inl ⟨by rfl, ?_⟩) ?_ ?_
   rotate_left
   ·intro w'
    go_simp
    with_reducible rfl
   rotate_left
   ·simp only [Act.put, List.setIfInBounds_toArray, List.set_cons_zero, List.set_cons_succ, i64_w, i32_w]
    rfl
   refine take_ (i := 1) (N := some 43) (v := ?_) (a' := ?_) #[tt_,tt_,tt_,tt_,ff_,tt_,ff_,ff_,ff_,tt_,ff_,tt_,ff_,ff_,ff_,ff_,ff_,ff_] rfl rfl (by kernel_rfl) (fun _ _ _ h => h) (Or.inl ⟨by rfl, ?_⟩) hHeld ?_ ?_
   rotate_left
   ·rintro w' ⟨s0, s1, s2, s3, s4⟩
    go_simp
    with_reducible rfl
   rotate_left
   ·simp only [Act.put, List.setIfInBounds_toArray, List.set_cons_zero, List.set_cons_succ, i64_w, i32_w]
    rfl
   refine take_ (i := 4) (N := some 46) (v := ?_) (a' := ?_) #[tt_,tt_,tt_,tt_,tt_,tt_,ff_,ff_,ff_,tt_,ff_,tt_,ff_,ff_,ff_,ff_,ff_,ff_] rfl rfl (by kernel_rfl) (fun _ _ _ h => h) (Or.inl ⟨by rfl, ?_⟩) hHeld ?_ ?_
   rotate_left
   ·rintro w' ⟨s0, s1, s2, s3, s4⟩
    go_simp
    with_reducible rfl
   rotate_left
   ·simp only [Act.put, List.setIfInBounds_toArray, List.set_cons_zero, List.set_cons_succ, i64_w, i32_w]
    rfl
   refine pure_ (i := 6) (N := some 48) (v := ?_) (a' := ?_) #[tt_,tt_,tt_,tt_,tt_,tt_,tt_,ff_,ff_,tt_,ff_,tt_,ff_,ff_,ff_,ff_,ff_,ff_] rfl rfl (by kernel_rfl) (fun _ _ _ h => h) (Or.inl ⟨by rfl, ?_⟩) ?_ ?_
   rotate_left
   ·intro w'
    go_simp
    with_reducible rfl
   rotate_left
   ·simp only [Act.put, List.setIfInBounds_toArray, List.set_cons_zero, List.set_cons_succ, i64_w, i32_w]
    rfl
   refine take_ (i := 7) (N := some 49) (v := ?_) (a' := ?_) #[tt_,tt_,tt_,tt_,tt_,tt_,tt_,tt_,ff_,tt_,ff_,tt_,ff_,ff_,ff_,ff_,ff_,ff_] rfl rfl (by kernel_rfl) (fun _ _ _ h => h) (Or.inl ⟨by rfl, ?_⟩) hHeld ?_ ?_
   rotate_left
   ·rintro w' ⟨s0, s1, s2, s3, s4⟩
    go_simp
    with_reducible rfl
   rotate_left
   ·simp only [Act.put, List.setIfInBounds_toArray, List.set_cons_zero, List.set_cons_succ, i64_w, i32_w]
    rfl
   refine take_ (i := 10) (N := some 52) (v := ?_) (a' := ?_) #[tt_,tt_,tt_,tt_,tt_,tt_,tt_,tt_,ff_,tt_,tt_,tt_,ff_,ff_,ff_,ff_,ff_,ff_] rfl rfl (by kernel_rfl) (fun _ _ _ h => h) (Or.inl ⟨by rfl, ?_⟩) hHeld ?_ ?_
   rotate_left
   ·rintro w' ⟨s0, s1, s2, s3, s4⟩
    go_simp
    with_reducible rfl
   rotate_left
   ·simp only [Act.put, List.setIfInBounds_toArray, List.set_cons_zero, List.set_cons_succ, i64_w, i32_w]
    rfl
   refine pure_ (i := 12) (N := some 54) (v := ?_) (a' := ?_) #[tt_,tt_,tt_,tt_,tt_,tt_,tt_,tt_,ff_,tt_,tt_,tt_,tt_,ff_,ff_,ff_,ff_,ff_] rfl rfl (by kernel_rfl) (fun _ _ _ h => h) (Or.inl ⟨by rfl, ?_⟩) ?_ ?_
   rotate_left
   ·intro w'
    go_simp
    with_reducible rfl
   rotate_left
   ·simp only [Act.put, List.setIfInBounds_toArray, List.set_cons_zero, List.set_cons_succ, i64_w, i32_w]
    rfl
   refine take_ (i := 13) (N := some 55) (v := ?_) (a' := ?_) #[tt_,tt_,tt_,tt_,tt_,tt_,tt_,tt_,ff_,tt_,tt_,tt_,tt_,tt_,ff_,ff_,ff_,ff_] rfl rfl (by kernel_rfl) (fun _ _ _ h => h) (Or.inl ⟨by rfl, ?_⟩) hHeld ?_ ?_
   rotate_left
   ·rintro w' ⟨s0, s1, s2, s3, s4⟩
    go_simp
    with_reducible rfl
   rotate_left
   ·simp only [Act.put, List.setIfInBounds_toArray, List.set_cons_zero, List.set_cons_succ, i64_w, i32_w]
    rfl
   refine one_ (i := 8) (N := some 50) #[tt_,tt_,tt_,tt_,tt_,tt_,tt_,tt_,tt_,tt_,tt_,tt_,tt_,tt_,ff_,ff_,ff_,ff_] rfl rfl (by kernel_rfl) (by decide) (fun K hK => ?_)
   refine goes_ Try.func64 (by kernel_rfl) rfl #[.int .u32 (a : Int)] (by rfl) rfl rfl (by (try simp only [List.map_toArray, List.map_cons, List.map_nil]); rfl) ?_
   with_reducible refine (rKey_calls a _ HA.out).mono ?_
   rw [HKA.out]
   rintro e w71 ⟨rfl, hb⟩
   refine ⟨_, rfl, ?_⟩
   have MM1 := Aside0.mk (M3_below MM0.out hb)
   have PP1 := Aside0.mk (blk_below PP0.out hb)
   have EE1 := Aside0.mk (blk_below EE0.out hb)
   have XX1 := Aside0.mk (pw_cell_below hb XX0.out)
   have XE1 := Aside0.mk (pw_cell_below hb XE0.out)
   clear hb
   refine hK.out _ _ ⟨(blk_cell MM1.out.2.1 2).trans rfl, (blk_cell PP1.out 2).trans rfl, XX1.out, (blk_cell EE1.out 2).trans rfl, XE1.out⟩ (fun hHeld => ?_)
   clear hK K
   refine norm_ (a' := ?_) ?_ ?_
   rotate_left
   ·show Act.put _ (some 50) _ = _
    simp only [Act.put, List.setIfInBounds_toArray, List.set_cons_zero, List.set_cons_succ, i64_w, i32_w]
    rfl
   refine one_ (i := 14) (N := some 56) #[tt_,tt_,tt_,tt_,tt_,tt_,tt_,tt_,tt_,tt_,tt_,tt_,tt_,tt_,tt_,ff_,ff_,ff_] rfl rfl (by kernel_rfl) (by decide) (fun K hK => ?_)
   refine goes_ Try.func64 (by kernel_rfl) rfl #[.int .u32 (b : Int)] (by rfl) rfl rfl (by (try simp only [List.map_toArray, List.map_cons, List.map_nil]); rfl) ?_
   with_reducible refine (rKey_calls b _ HB.out).mono ?_
   rw [HKB.out]
   rintro e w72 ⟨rfl, hb⟩
   refine ⟨_, rfl, ?_⟩
   have MM2 := Aside0.mk (M3_below MM1.out hb)
   have PP2 := Aside0.mk (blk_below PP1.out hb)
   have EE2 := Aside0.mk (blk_below EE1.out hb)
   have XX2 := Aside0.mk (pw_cell_below hb XX1.out)
   have XE2 := Aside0.mk (pw_cell_below hb XE1.out)
   clear hb
   have z1 := (M3_cell MM2.out i HLT.out).1
   have zf := (M3_cell MM2.out i HLT.out).2
   refine hK.out _ _ ⟨(blk_cell MM2.out.2.1 2).trans rfl, (blk_cell PP2.out 2).trans rfl, XX2.out, (blk_cell EE2.out 2).trans rfl, XE2.out⟩ (fun hHeld => ?_)
   clear hK K
   refine norm_ (a' := ?_) ?_ ?_
   rotate_left
   ·show Act.put _ (some 56) _ = _
    simp only [Act.put, List.setIfInBounds_toArray, List.set_cons_zero, List.set_cons_succ, i64_w, i32_w]
    rfl
   refine pure_ (i := 15) (N := some 57) (v := ?_) (a' := ?_) #[tt_,tt_,tt_,tt_,tt_,tt_,tt_,tt_,tt_,tt_,tt_,tt_,tt_,tt_,tt_,tt_,ff_,ff_] rfl rfl (by kernel_rfl) (fun _ _ _ h => h) (Or.inl ⟨by rfl, ?_⟩) ?_ ?_
   rotate_left
   ·intro w'
    go_simp
    with_reducible rfl
   rotate_left
   ·simp only [Act.put, List.setIfInBounds_toArray, List.set_cons_zero, List.set_cons_succ, i64_w, i32_w]
    rfl
   refine pure_ (i := 16) (N := some 58) (v := ?_) (a' := ?_) #[tt_,tt_,tt_,tt_,tt_,tt_,tt_,tt_,tt_,tt_,tt_,tt_,tt_,tt_,tt_,tt_,tt_,ff_] rfl rfl (by kernel_rfl) (fun _ _ _ h => h) (Or.inl ⟨by rfl, ?_⟩) ?_ ?_
   rotate_left
   ·intro w'
    go_simp
    with_reducible rfl
   rotate_left
   ·simp only [Act.put, List.setIfInBounds_toArray, List.set_cons_zero, List.set_cons_succ, i64_w, i32_w]
    rfl
   refine last_ (i := 17) (N := none) #[tt_,tt_,tt_,tt_,tt_,tt_,tt_,tt_,tt_,tt_,tt_,tt_,tt_,tt_,tt_,tt_,tt_,tt_] rfl rfl (by kernel_rfl) (by decide) (fun K hK => ?_)
   refine skip_ (w1 := ?_) (by rfl) rfl ?_ ?_
   rotate_left
   ·go_simp
    rfl
   refine hK.out _ _ ?_
   clear hK K
   refine done_ (by kernel_rfl) ?_
   have MN := Aside0.mk (M3_put MM2.out i d GO.out)
   generalize w72.setCell ⟨go, i, none⟩ (.int .u32 (d : Int)) = wn at *
   clear z1 zf MM0 PP0 EE0 XX0 XE0 MM1 PP1 EE1 XX1 XE1 MM2 PP2 EE2 XX2 XE2 hHeld
   go_wp2
   go_roundw
   case measure => simp [intOf]; have := HLT.out; omega
   case rel => exact ⟨i + 1, ys.set i d, HLT.out, by go_num, HYS, MN⟩
  ·obtain rfl : n5 = i := by omega
   have c1 : decide ((n5 : Int) < (n5 : Int)) = false := decide_eq_false (by omega)
   go_upto_region 10 with (fail)
   have MM := Aside0.mk (M3_drew HM.out)
   have hbw := MM.out.2.2
   have FF := Aside0.mk MM.out.2.1
   have UU : Aside0 ((nat .u32).R 50 wr.drew w7.heap.size (fun _ => True) (.slice (some ⟨go, 0, none⟩) n5 co) ys) := ⟨MM.out.1⟩
   have VV := Aside0.mk (Kd.R_below QV.out hbw)
   have RR := Aside0.mk (blk_below QR.out hbw)
   have SS := Aside0.mk (blk_below QS.out hbw)
   have CC := Aside0.mk (blk_below QC.out hbw)
   have BB := Aside0.mk (below_step QB.out hbw)
   clear hbw MM HM z2
   refine start_ (n := 5) (S := fun w' => w'.cell? ⟨g5, 0, none⟩ = some (.int .i64 ((hf W : Nat) : Int)) ∧ w'.cell? ⟨g5, 1, none⟩ = some (.int .i64 ((hf H : Nat) : Int)) ∧ w'.cell? ⟨g5, 2, none⟩ = some (.slice A4 n4 c4) ∧ w'.cell? ⟨g9, 0, none⟩ = some (.int .i64 (W : Int)) ∧ w'.cell? ⟨g9, 1, none⟩ = some (.int .i64 (H : Int)) ∧ w'.cell? ⟨g9, 2, none⟩ = some (.slice (some ⟨go, 0, none⟩) n5 co)) (ds := [3]) #[false, false, false, false, false] (by kernel_rfl) rfl rfl ⟨(blk_cell CC.out 0).trans rfl, (blk_cell CC.out 1).trans rfl, (blk_cell CC.out 2).trans rfl, (blk_cell FF.out 0).trans rfl, (blk_cell FF.out 1).trans rfl, (blk_cell FF.out 2).trans rfl⟩ (fun hHeld => ?_)
   generalize wr.drew = w80 at *
   refine take_ (i := 0) (N := some 59) (v := ?_) (a' := ?_) #[true, false, false, false, false] rfl rfl (by kernel_rfl) (fun _ _ _ h => h) (Or.inl ⟨by rfl, ?_⟩) hHeld ?_ ?_
   rotate_left
   ·rintro w' ⟨s0, s1, s2, s3, s4, s5⟩
    go_simp
    with_reducible rfl
   rotate_left
   ·simp only [Act.put, List.setIfInBounds_toArray, List.set_cons_zero, List.set_cons_succ, i64_w, i32_w]
    rfl
   refine take_ (i := 1) (N := some 60) (v := ?_) (a' := ?_) #[true, true, false, false, false] rfl rfl (by kernel_rfl) (fun _ _ _ h => h) (Or.inl ⟨by rfl, ?_⟩) hHeld ?_ ?_
   rotate_left
   ·rintro w' ⟨s0, s1, s2, s3, s4, s5⟩
    go_simp
    with_reducible rfl
   rotate_left
   ·simp only [Act.put, List.setIfInBounds_toArray, List.set_cons_zero, List.set_cons_succ, i64_w, i32_w]
    rfl
   refine one_ (i := 2) (N := none) #[true, true, true, false, false] rfl rfl (by kernel_rfl) (by decide) (fun K hK => ?_)
   refine storeP_step (by rfl) rfl rfl gR ((hf W : Nat) : Int) ((hf H : Nat) : Int) A4 n4 c4 _ _ _ rfl rfl RR.out ?_
   intro w81 hm_ hst_ hbl_
   have R81 := Aside0.mk (hm_)
   have C81 := Aside0.mk ((hst_ g5 NRC.out).trans CC.out)
   have S81 := Aside0.mk ((hst_ gS NRS.out.symm).trans SS.out)
   have F81 := Aside0.mk ((hst_ g9 NRF.out).trans FF.out)
   have B81 := Aside0.mk (BB.out.trans (hbl_ _ GR.out))
   have V81 := Aside0.mk (Kd.R_mono (Kd.R_move (Kd.R_types VV.out RR.out (by decide)) (fun k hk => hst_ k hk.2)) (ok' := fun _ => True) (fun _ _ => trivial))
   have U81 := Aside0.mk (Kd.R_mono (Kd.R_move (Kd.R_types UU.out RR.out (by decide)) (fun k hk => hst_ k hk.2)) (ok' := fun _ => True) (fun _ _ => trivial))
   clear hm_ hst_ hbl_
   refine hK.out _ _ ⟨(blk_cell C81.out 0).trans rfl, (blk_cell C81.out 1).trans rfl, (blk_cell C81.out 2).trans rfl, (blk_cell F81.out 0).trans rfl, (blk_cell F81.out 1).trans rfl, (blk_cell F81.out 2).trans rfl⟩ (fun hHeld => ?_)
   clear hK K
   refine last_ (i := 3) (N := none) #[true, true, true, true, false] rfl rfl (by kernel_rfl) (by decide) (fun K hK => ?_)
   refine storeP_step (by rfl) rfl rfl gS (W : Int) (H : Int) (some ⟨go, 0, none⟩) n5 co _ _ _ rfl rfl S81.out ?_
   intro w82 hm_ hst_ hbl_
   have S82 := Aside0.mk (hm_)
   have R82 := Aside0.mk ((hst_ gR NRS.out).trans R81.out)
   have B82 := Aside0.mk (B81.out.trans (hbl_ _ GS.out))
   have V82 := Aside0.mk (Kd.R_mono (Kd.R_move (Kd.R_types V81.out S81.out (by decide)) (fun k hk => hst_ k hk.2)) (ok' := fun _ => True) (fun _ _ => trivial))
   have U82 := Aside0.mk (Kd.R_mono (Kd.R_move (Kd.R_types U81.out S81.out (by decide)) (fun k hk => hst_ k hk.2)) (ok' := fun _ => True) (fun _ _ => trivial))
   clear hm_ hst_ hbl_
   refine hK.out _ _ ?_
   clear hK K
   refine pure_ (i := 4) (N := some 4) (v := ?_) (a' := ?_) #[true, true, true, true, true] rfl rfl (by kernel_rfl) (fun _ _ _ h => h) (Or.inl ⟨by rfl, ?_⟩) ?_ ?_
   rotate_left
   ·intro w'
    go_simp
    with_reducible rfl
   rotate_left
   ·simp only [Act.put, List.setIfInBounds_toArray, List.set_cons_zero, List.set_cons_succ, i64_w, i32_w]
    rfl
   refine done_ (by kernel_rfl) ?_
   try go_wp2
   refine bodyPost_ret (results_cct rfl _ _ gR gS 25 25 #[.int .i64 ((hf W : Nat) : Int), .int .i64 ((hf H : Nat) : Int), .slice A4 n4 c4] #[.int .i64 (W : Int), .int .i64 (H : Int), .slice (some ⟨go, 0, none⟩) n5 co] (0, 0) (0, 0) _ _ rfl R82.out Try.underlying25 rfl (by kernel_rfl) rfl S82.out Try.underlying25 rfl (by kernel_rfl)) rfl ?_
   exact ⟨_, _, rfl, V82.out, by rw [← HY.out]; exact Kd.R_lower U82.out QB.out.size, B82.out⟩
end Go.Proofs.Ytodlgdpkadkjjaa.A
end
section
set_option linter.unusedVariables false
set_option linter.unusedSimpArgs false
namespace Go.Proofs.Ytodlgdpkadkjjaa.A
open Go.RowKit Go.Shelf Go.Proofs.YtodlgdpkadkjjaaW.PrintWords Go.Proofs.YtodlgdpkadkjjaaW.PrintLast Go.Proofs.YtodlgdpkadkjjaaW.PrintMore Go.Proofs.Ytodlgdpkadkjjaa.PPyramidLevels
set_option maxHeartbeats 4000000 in
set_option maxRecDepth 100000 in
theorem rJoin_bad1 (x y u v : Int) (A D : Option Addr) (n cap m dcap : Nat) (p q : List Nat) (w : World) (hx : PL w A n cap p) (hy : PL w D m dcap q) (hE : checkE x y n ≠ 0) :
    Calls Try.prog 32 #[.agg #[.int .i64 x, .int .i64 y, .slice A n cap], .agg #[.int .i64 u, .int .i64 v, .slice D m dcap]] w fun e w' => e = .returned (.tuple #[.agg #[.int .i64 0, .int .i64 0, .slice none 0 0], .int .i64 ((checkE x y n : Nat) : Int)]) ∧ Below w.heap.size w w' := by
 have hu25 := Try.underlying25
 have HNL : Aside0 (n < 9223372036854775808) := ⟨by have := hx.1.2.1; omega⟩
 have HML : Aside0 (m < 9223372036854775808) := ⟨by have := hy.1.2.1; omega⟩
 have Lx_0 := Aside0.mk hx
 have Ly_0 := Aside0.mk hy
 obtain ⟨c, hc⟩ : ∃ c, checkE x y n = c := ⟨_, rfl⟩
 have HE := Aside0.mk hc
 rw [hc] at hE ⊢
 have t1 : ((c : Int) != 0) = true := by rw [bne_iff_ne]; omega
 clear hc hE hx hy
 have B_0 : Aside0 (Below w.heap.size w w) := ⟨Below.refl _ _⟩
 go_enter Try.func32, Try.ntmps32
 go_wp2_with (first | (go_at_call 44; have hkey := B_3; clear hkey; refine (rCheck_calls x y A n cap _ HNL.out).mono ?_; rw [HE.out]; rintro e w4 ⟨rfl, hb⟩; clear p0 p1 p2; have B_4 := Aside0.mk (below_step B_3.out hb); have DX_4 := Aside0.mk (blk_below DX_3.out hb); have DY_4 := Aside0.mk (blk_below DY_3.out hb); have DR_4 := Aside0.mk (blk_below DR_3.out hb); have Lx_4 := Aside0.mk (Lx_3.out.below hb); have Ly_4 := Aside0.mk (Ly_3.out.below hb); clear DX_3 DY_3 DR_3 Lx_3 Ly_3; clear hb) | ((with_reducible refine gate_dst (N := 4) rfl ?_); refine box_event ?hg (N := 4) ?hd (cs := #[.int .i64 0, .int .i64 0, .slice none 0 0]) (t := 25) ?hr ?_; (case hd => rfl); (case hg => rfl); (case hr => first | (go_simp; done) | (go_simp; rfl)); intro gR hg_ w3 hm_ hb_; have GR := Aside0.mk (show w.heap.size ≤ gR by rw [hg_]; exact B_2.out.size); have B_3 := Aside0.mk (below_step B_2.out hb_); have DX_3 := Aside0.mk (blk_below DX_2.out hb_); have DY_3 := Aside0.mk (blk_below DY_2.out hb_); have Lx_3 := Aside0.mk (Lx_2.out.below hb_); have Ly_3 := Aside0.mk (Ly_2.out.below hb_); clear DX_2 DY_2 Lx_2 Ly_2; have DR_3 := Aside0.mk (hm_); clear hm_ hb_ hg_; have p0 := (blk_cell DX_3.out 0).trans rfl; have p1 := (blk_cell DX_3.out 1).trans rfl; have p2 := (blk_cell DX_3.out 2).trans rfl) | ((with_reducible refine gate_dst (N := 3) rfl ?_); refine box_event ?hg (N := 3) ?hd (cs := #[.int .i64 u, .int .i64 v, .slice D m dcap]) (t := 25) ?hr ?_; (case hd => rfl); (case hg => rfl); (case hr => first | (go_simp; done) | (go_simp; rfl)); intro gY hg_ w2 hm_ hb_; have B_2 := Aside0.mk (below_step B_1.out hb_); have DX_2 := Aside0.mk (blk_below DX_1.out hb_); have Lx_2 := Aside0.mk (Lx_1.out.below hb_); have Ly_2 := Aside0.mk (Ly_1.out.below hb_); clear DX_1 Lx_1 Ly_1; have DY_2 := Aside0.mk (hm_); clear hm_ hb_ hg_) | ((with_reducible refine gate_dst (N := 2) rfl ?_); refine box_event ?hg (N := 2) ?hd (cs := #[.int .i64 x, .int .i64 y, .slice A n cap]) (t := 25) ?hr ?_; (case hd => rfl); (case hg => rfl); (case hr => first | (go_simp; done) | (go_simp; rfl)); intro gX hg_ w1 hm_ hb_; have B_1 := Aside0.mk (below_step B_0.out hb_); have Lx_1 := Aside0.mk (Lx_0.out.below hb_); have Ly_1 := Aside0.mk (Ly_0.out.below hb_); clear Lx_0 Ly_0; have DX_1 := Aside0.mk (hm_); clear hm_ hb_ hg_) | ((with_reducible refine gate_store (p := 4) rfl ?_); refine storeP_event rfl rfl rfl gR 0 0 none 0 0 _ _ _ rfl rfl DR_4.out ?_; intro w60 hm_ hst_ hbl_; have R60 := Aside0.mk (hm_); have B60 := Aside0.mk (B_4.out.trans (hbl_ _ GR.out)); clear hm_ hst_ hbl_))
 refine bodyPost_ret (results_ct rfl _ _ gR 25 #[.int .i64 0, .int .i64 0, .slice none 0 0] (0, 0) _ rfl R60.out Try.underlying25 rfl (by kernel_rfl)) rfl ?_
 exact ⟨rfl, B60.out⟩
set_option maxHeartbeats 4000000 in
set_option maxRecDepth 100000 in
theorem rJoin_bad2 (x y u v : Int) (A D : Option Addr) (n cap m dcap : Nat) (p q : List Nat) (w : World) (hx : PL w A n cap p) (hy : PL w D m dcap q) (hE1 : checkE x y n = 0) (hE : checkE u v m ≠ 0) :
    Calls Try.prog 32 #[.agg #[.int .i64 x, .int .i64 y, .slice A n cap], .agg #[.int .i64 u, .int .i64 v, .slice D m dcap]] w fun e w' => e = .returned (.tuple #[.agg #[.int .i64 0, .int .i64 0, .slice none 0 0], .int .i64 ((checkE u v m : Nat) : Int)]) ∧ Below w.heap.size w w' := by
 have hu25 := Try.underlying25
 have HNL : Aside0 (n < 9223372036854775808) := ⟨by have := hx.1.2.1; omega⟩
 have HML : Aside0 (m < 9223372036854775808) := ⟨by have := hy.1.2.1; omega⟩
 have Lx_0 := Aside0.mk hx
 have Ly_0 := Aside0.mk hy
 obtain ⟨c, hc⟩ : ∃ c, checkE u v m = c := ⟨_, rfl⟩
 have HE := Aside0.mk hc
 have HE1 := Aside0.mk hE1
 rw [hc] at hE ⊢
 have t1 : ((c : Int) != 0) = true := by rw [bne_iff_ne]; omega
 clear hc hE hE1 hx hy
 have B_0 : Aside0 (Below w.heap.size w w) := ⟨Below.refl _ _⟩
 go_enter Try.func32, Try.ntmps32
 go_wp2_with (first | (go_at_call 44; have hkey := B_4; clear hkey; refine (rCheck_calls u v D m dcap _ HML.out).mono ?_; rw [HE.out]; rintro e w5 ⟨rfl, hb⟩; clear p0 p1 p2; have B_5 := Aside0.mk (below_step B_4.out hb); have DX_5 := Aside0.mk (blk_below DX_4.out hb); have DY_5 := Aside0.mk (blk_below DY_4.out hb); have DR_5 := Aside0.mk (blk_below DR_4.out hb); have Lx_5 := Aside0.mk (Lx_4.out.below hb); have Ly_5 := Aside0.mk (Ly_4.out.below hb); clear DX_4 DY_4 DR_4 Lx_4 Ly_4; clear hb) | (go_at_call 44; have hkey := B_3; clear hkey; refine (rCheck_calls x y A n cap _ HNL.out).mono ?_; rw [HE1.out]; rintro e w4 ⟨rfl, hb⟩; clear p0 p1 p2; have B_4 := Aside0.mk (below_step B_3.out hb); have DX_4 := Aside0.mk (blk_below DX_3.out hb); have DY_4 := Aside0.mk (blk_below DY_3.out hb); have DR_4 := Aside0.mk (blk_below DR_3.out hb); have Lx_4 := Aside0.mk (Lx_3.out.below hb); have Ly_4 := Aside0.mk (Ly_3.out.below hb); clear DX_3 DY_3 DR_3 Lx_3 Ly_3; clear hb; have p0 := (blk_cell DY_4.out 0).trans rfl; have p1 := (blk_cell DY_4.out 1).trans rfl; have p2 := (blk_cell DY_4.out 2).trans rfl) | ((with_reducible refine gate_dst (N := 4) rfl ?_); refine box_event ?hg (N := 4) ?hd (cs := #[.int .i64 0, .int .i64 0, .slice none 0 0]) (t := 25) ?hr ?_; (case hd => rfl); (case hg => rfl); (case hr => first | (go_simp; done) | (go_simp; rfl)); intro gR hg_ w3 hm_ hb_; have GR := Aside0.mk (show w.heap.size ≤ gR by rw [hg_]; exact B_2.out.size); have B_3 := Aside0.mk (below_step B_2.out hb_); have DX_3 := Aside0.mk (blk_below DX_2.out hb_); have DY_3 := Aside0.mk (blk_below DY_2.out hb_); have Lx_3 := Aside0.mk (Lx_2.out.below hb_); have Ly_3 := Aside0.mk (Ly_2.out.below hb_); clear DX_2 DY_2 Lx_2 Ly_2; have DR_3 := Aside0.mk (hm_); clear hm_ hb_ hg_; have p0 := (blk_cell DX_3.out 0).trans rfl; have p1 := (blk_cell DX_3.out 1).trans rfl; have p2 := (blk_cell DX_3.out 2).trans rfl) | ((with_reducible refine gate_dst (N := 3) rfl ?_); refine box_event ?hg (N := 3) ?hd (cs := #[.int .i64 u, .int .i64 v, .slice D m dcap]) (t := 25) ?hr ?_; (case hd => rfl); (case hg => rfl); (case hr => first | (go_simp; done) | (go_simp; rfl)); intro gY hg_ w2 hm_ hb_; have B_2 := Aside0.mk (below_step B_1.out hb_); have DX_2 := Aside0.mk (blk_below DX_1.out hb_); have Lx_2 := Aside0.mk (Lx_1.out.below hb_); have Ly_2 := Aside0.mk (Ly_1.out.below hb_); clear DX_1 Lx_1 Ly_1; have DY_2 := Aside0.mk (hm_); clear hm_ hb_ hg_) | ((with_reducible refine gate_dst (N := 2) rfl ?_); refine box_event ?hg (N := 2) ?hd (cs := #[.int .i64 x, .int .i64 y, .slice A n cap]) (t := 25) ?hr ?_; (case hd => rfl); (case hg => rfl); (case hr => first | (go_simp; done) | (go_simp; rfl)); intro gX hg_ w1 hm_ hb_; have B_1 := Aside0.mk (below_step B_0.out hb_); have Lx_1 := Aside0.mk (Lx_0.out.below hb_); have Ly_1 := Aside0.mk (Ly_0.out.below hb_); clear Lx_0 Ly_0; have DX_1 := Aside0.mk (hm_); clear hm_ hb_ hg_) | ((with_reducible refine gate_store (p := 4) rfl ?_); refine storeP_event rfl rfl rfl gR 0 0 none 0 0 _ _ _ rfl rfl DR_5.out ?_; intro w60 hm_ hst_ hbl_; have R60 := Aside0.mk (hm_); have B60 := Aside0.mk (B_5.out.trans (hbl_ _ GR.out)); clear hm_ hst_ hbl_))
 refine bodyPost_ret (results_ct rfl _ _ gR 25 #[.int .i64 0, .int .i64 0, .slice none 0 0] (0, 0) _ rfl R60.out Try.underlying25 rfl (by kernel_rfl)) rfl ?_
 exact ⟨rfl, B60.out⟩
set_option maxHeartbeats 4000000 in
set_option maxRecDepth 100000 in
theorem rJoin_form (x y u v : Int) (A D : Option Addr) (n cap m dcap : Nat) (p q : List Nat) (w : World) (hx : PL w A n cap p) (hy : PL w D m dcap q) (hpx : ∀ i, gt p i < 4294967296) (hE1 : checkE x y n = 0) (hE2 : checkE u v m = 0) (hex : expO x y p u v = ⟨0, 0, [], 141⟩) :
    Calls Try.prog 32 #[.agg #[.int .i64 x, .int .i64 y, .slice A n cap], .agg #[.int .i64 u, .int .i64 v, .slice D m dcap]] w fun e w' => e = .returned (.tuple #[.agg #[.int .i64 0, .int .i64 0, .slice none 0 0], .int .i64 141]) ∧ Below w.heap.size w w' := by
 have hu25 := Try.underlying25
 have HNL : Aside0 (n < 9223372036854775808) := ⟨by have := hx.1.2.1; omega⟩
 have HML : Aside0 (m < 9223372036854775808) := ⟨by have := hy.1.2.1; omega⟩
 have Lx_0 := Aside0.mk hx
 have Ly_0 := Aside0.mk hy
 have HE1 := Aside0.mk hE1
 have HE2 := Aside0.mk hE2
 have HPX := Aside0.mk hpx
 have HEX := Aside0.mk hex
 clear hE1 hE2 hex hpx hx hy
 have B_0 : Aside0 (Below w.heap.size w w) := ⟨Below.refl _ _⟩
 go_enter Try.func32, Try.ntmps32
 go_wp2_with (first | ((with_reducible refine gate_store (p := 7) rfl ?_); refine storeP_event rfl rfl rfl g7 0 0 A5 n5 c5 _ _ _ rfl rfl ZC.out ?_; intro w7 hm_ hst_ hbl_; have BL6_2 := Aside0.mk (BL6_1.out.trans (hbl_ _ GGC.out)); have ZC_ := Aside0.mk hm_; have B_7 := Aside0.mk (below_step B_6.out BL6_2.out); have DX_7 := Aside0.mk (blk_below DX_6.out BL6_2.out); have DY_7 := Aside0.mk (blk_below DY_6.out BL6_2.out); have DR_7 := Aside0.mk (blk_below DR_6.out BL6_2.out); have Lx_7 := Aside0.mk (Lx_6.out.below BL6_2.out); have Ly_7 := Aside0.mk (Ly_6.out.below BL6_2.out); clear DX_6 DY_6 DR_6 Lx_6 Ly_6; have DC_7 := Aside0.mk (ZC_.out); clear ZC_ ZC BL6_1 BL6_2; clear hm_ hst_ hbl_) | ((with_reducible refine gate_dst (N := 7) rfl ?_); refine box_event ?hg (N := 7) ?hd (cs := #[.int .i64 0, .int .i64 0, .slice none 0 0]) (t := 25) ?hr ?_; (case hd => rfl); (case hg => rfl); (case hr => first | (go_simp; done) | (go_simp; rfl)); intro g7 hg_ w6_1 hm_ hb_; have BL6_1 := Aside0.mk (hb_); have ZC := Aside0.mk (hm_); have GGC := Aside0.mk (show w6.heap.size ≤ g7 by rw [hg_]; exact Nat.le_refl _); clear hm_ hb_ hg_) | (go_at_call 15; have hkey := B_5; clear hkey; refine (rExpand_any u v Lx_5.out HPX.out).mono ?_; rw [HEX.out]; rintro e w6 ⟨v5, rfl, hO, hb⟩; clear p0 p1; obtain ⟨A5, n5, c5, rfl, hn5, hL5⟩ := hO.PL; clear hO hn5 hL5; have B_6 := Aside0.mk (below_step B_5.out hb); have DX_6 := Aside0.mk (blk_below DX_5.out hb); have DY_6 := Aside0.mk (blk_below DY_5.out hb); have DR_6 := Aside0.mk (blk_below DR_5.out hb); have Lx_6 := Aside0.mk (Lx_5.out.below hb); have Ly_6 := Aside0.mk (Ly_5.out.below hb); clear DX_5 DY_5 DR_5 Lx_5 Ly_5; clear hb) | ((with_reducible refine gate_dst (N := 23) rfl ?_); refine loadP_g rfl ?hw gX _ _ _ rfl DX_5.out ?_; (case hw => rfl)) | (go_at_call 44; have hkey := B_4; clear hkey; refine (rCheck_calls u v D m dcap _ HML.out).mono ?_; rw [HE2.out]; rintro e w5 ⟨rfl, hb⟩; clear p0 p1 p2; have B_5 := Aside0.mk (below_step B_4.out hb); have DX_5 := Aside0.mk (blk_below DX_4.out hb); have DY_5 := Aside0.mk (blk_below DY_4.out hb); have DR_5 := Aside0.mk (blk_below DR_4.out hb); have Lx_5 := Aside0.mk (Lx_4.out.below hb); have Ly_5 := Aside0.mk (Ly_4.out.below hb); clear DX_4 DY_4 DR_4 Lx_4 Ly_4; clear hb; have p0 := (blk_cell DY_5.out 0).trans rfl; have p1 := (blk_cell DY_5.out 1).trans rfl) | (go_at_call 44; have hkey := B_3; clear hkey; refine (rCheck_calls x y A n cap _ HNL.out).mono ?_; rw [HE1.out]; rintro e w4 ⟨rfl, hb⟩; clear p0 p1 p2; have B_4 := Aside0.mk (below_step B_3.out hb); have DX_4 := Aside0.mk (blk_below DX_3.out hb); have DY_4 := Aside0.mk (blk_below DY_3.out hb); have DR_4 := Aside0.mk (blk_below DR_3.out hb); have Lx_4 := Aside0.mk (Lx_3.out.below hb); have Ly_4 := Aside0.mk (Ly_3.out.below hb); clear DX_3 DY_3 DR_3 Lx_3 Ly_3; clear hb; have p0 := (blk_cell DY_4.out 0).trans rfl; have p1 := (blk_cell DY_4.out 1).trans rfl; have p2 := (blk_cell DY_4.out 2).trans rfl) | ((with_reducible refine gate_dst (N := 4) rfl ?_); refine box_event ?hg (N := 4) ?hd (cs := #[.int .i64 0, .int .i64 0, .slice none 0 0]) (t := 25) ?hr ?_; (case hd => rfl); (case hg => rfl); (case hr => first | (go_simp; done) | (go_simp; rfl)); intro gR hg_ w3 hm_ hb_; have GR := Aside0.mk (show w.heap.size ≤ gR by rw [hg_]; exact B_2.out.size); have B_3 := Aside0.mk (below_step B_2.out hb_); have DX_3 := Aside0.mk (blk_below DX_2.out hb_); have DY_3 := Aside0.mk (blk_below DY_2.out hb_); have Lx_3 := Aside0.mk (Lx_2.out.below hb_); have Ly_3 := Aside0.mk (Ly_2.out.below hb_); clear DX_2 DY_2 Lx_2 Ly_2; have DR_3 := Aside0.mk (hm_); clear hm_ hb_ hg_; have p0 := (blk_cell DX_3.out 0).trans rfl; have p1 := (blk_cell DX_3.out 1).trans rfl; have p2 := (blk_cell DX_3.out 2).trans rfl) | ((with_reducible refine gate_dst (N := 3) rfl ?_); refine box_event ?hg (N := 3) ?hd (cs := #[.int .i64 u, .int .i64 v, .slice D m dcap]) (t := 25) ?hr ?_; (case hd => rfl); (case hg => rfl); (case hr => first | (go_simp; done) | (go_simp; rfl)); intro gY hg_ w2 hm_ hb_; have B_2 := Aside0.mk (below_step B_1.out hb_); have DX_2 := Aside0.mk (blk_below DX_1.out hb_); have Lx_2 := Aside0.mk (Lx_1.out.below hb_); have Ly_2 := Aside0.mk (Ly_1.out.below hb_); clear DX_1 Lx_1 Ly_1; have DY_2 := Aside0.mk (hm_); clear hm_ hb_ hg_) | ((with_reducible refine gate_dst (N := 2) rfl ?_); refine box_event ?hg (N := 2) ?hd (cs := #[.int .i64 x, .int .i64 y, .slice A n cap]) (t := 25) ?hr ?_; (case hd => rfl); (case hg => rfl); (case hr => first | (go_simp; done) | (go_simp; rfl)); intro gX hg_ w1 hm_ hb_; have B_1 := Aside0.mk (below_step B_0.out hb_); have Lx_1 := Aside0.mk (Lx_0.out.below hb_); have Ly_1 := Aside0.mk (Ly_0.out.below hb_); clear Lx_0 Ly_0; have DX_1 := Aside0.mk (hm_); clear hm_ hb_ hg_) | ((with_reducible refine gate_store (p := 4) rfl ?_); refine storeP_event rfl rfl rfl gR 0 0 none 0 0 _ _ _ rfl rfl DR_7.out ?_; intro w60 hm_ hst_ hbl_; have R60 := Aside0.mk (hm_); have B60 := Aside0.mk (B_7.out.trans (hbl_ _ GR.out)); clear hm_ hst_ hbl_))
 refine bodyPost_ret (results_ct rfl _ _ gR 25 #[.int .i64 0, .int .i64 0, .slice none 0 0] (0, 0) _ rfl R60.out Try.underlying25 rfl (by kernel_rfl)) rfl ?_
 exact ⟨rfl, B60.out⟩
set_option maxHeartbeats 8000000 in
set_option maxRecDepth 100000 in
theorem rJoin_ok (W H U T : Nat) (A D : Option Addr) (n cap m dcap : Nat) (p q : List Nat) (w : World) (hx : PL w A n cap p) (hy : PL w D m dcap q) (hp : (Pl.mk W H p).ok) (hq : (Pl.mk U T q).ok) (hW : hf U = W) (hH : hf T = H) :
    Calls Try.prog 32 #[.agg #[.int .i64 (W : Int), .int .i64 (H : Int), .slice A n cap], .agg #[.int .i64 (U : Int), .int .i64 (T : Int), .slice D m dcap]] w fun e w' => ∃ v, e = .returned (.tuple #[.agg #[.int .i64 (U : Int), .int .i64 (T : Int), v], .int .i64 0]) ∧ (nat .u32).R 50 w' w.heap.size (fun _ => True) v (joiS W H U T p q) ∧ Below w.heap.size w w' := by
 have hu25 := Try.underlying25
 have HNL : Aside0 (n < 9223372036854775808) := ⟨by have := hx.1.2.1; omega⟩
 have HML : Aside0 (m < 9223372036854775808) := ⟨by have := hy.1.2.1; omega⟩
 have Lx_0 := Aside0.mk hx
 have Ly_0 := Aside0.mk hy
 have HE1 : Aside0 (checkE (W : Int) (H : Int) n = 0) := ⟨by rw [← hx.2.2]; exact hp.checkE⟩
 have HE2 : Aside0 (checkE (U : Int) (T : Int) m = 0) := ⟨by rw [← hy.2.2]; exact hq.checkE⟩
 have HP := Aside0.mk hp
 have HWU := Aside0.mk hW
 have HHT := Aside0.mk hH
 obtain ⟨p1, p2, p3, p4, p5, p6, p7⟩ := hq
 have p1 : 0 < U := p1
 have p2 : 0 < T := p2
 have p3 : U ≤ 1024 := p3
 have p4 : T ≤ 1024 := p4
 have p5 : U * T ≤ 65536 := p5
 have p6 : q.length = U * T := p6
 have hnn : m = U * T := hy.2.2.symm.trans p6
 have HNW : Aside0 (U * T = m) := ⟨hnn.symm⟩
 have HNB : Aside0 (0 < m ∧ m ≤ 65536) := ⟨by rw [hnn]; exact ⟨Nat.mul_pos p1 p2, p5⟩⟩
 have HWH := Aside0.mk p5
 have HXX := Aside0.mk p7
 have HSZ : Aside0 (0 < U ∧ 0 < T ∧ U ≤ 1024 ∧ T ≤ 1024 ∧ U * T ≤ 65536) := ⟨⟨p1, p2, p3, p4, p5⟩⟩
 obtain ⟨es, hes⟩ : ∃ es, expS W H U T p = es := ⟨_, rfl⟩
 have hel : es.length = m := by rw [← hes, expS_length, hnn]
 have HEL := Aside0.mk hel
 have HEX : Aside0 (∀ i, gt es i < 4294967296) := ⟨by rw [← hes]; exact expS_lt hp p3 p4⟩
 have HFS : Aside0 (layTo (fun j => addA (gt q j) (gt es j)) m m = joiS W H U T p q) := ⟨by rw [layTo_zip addA q es hel]; unfold joiS; rw [hes]⟩
 have HES := Aside0.mk hes
 rw [← HFS.out]
 clear p1 p2 p3 p4 p5 p6 p7 hx hy hp hes hel hnn HFS hW hH
 have B_0 : Aside0 (Below w.heap.size w w) := ⟨Below.refl _ _⟩
 go_enter Try.func32, Try.ntmps32
 go_wp2_with (first | ((with_reducible refine gate_store (p := 8) rfl ?_); refine storeP_event rfl rfl rfl g8 (U : Int) (T : Int) (some ⟨go, 0, none⟩) n5 co _ _ _ rfl rfl ZF.out ?_; intro w9 hm_ hst_ hbl_; have BL8_2 := Aside0.mk (BL8_1.out.trans (hbl_ _ GGF.out)); have ZF_ := Aside0.mk hm_; have B_9 := Aside0.mk (below_step B_8.out BL8_2.out); have DX_9 := Aside0.mk (blk_below DX_8.out BL8_2.out); have DY_9 := Aside0.mk (blk_below DY_8.out BL8_2.out); have DR_9 := Aside0.mk (blk_below DR_8.out BL8_2.out); have DE_9 := Aside0.mk (blk_below DE_8.out BL8_2.out); have Lx_9 := Aside0.mk (Lx_8.out.below BL8_2.out); have Ly_9 := Aside0.mk (Ly_8.out.below BL8_2.out); have Le_9 := Aside0.mk (Le_8.out.below BL8_2.out); have BQ_9 := Aside0.mk (below_step BQ_8.out BL8_2.out); have U_9 := Aside0.mk (Kd.R_below U_8.out BL8_2.out); clear DX_8 DY_8 DR_8 DE_8 Lx_8 Ly_8 Le_8 BQ_8 U_8; have DF_9 := Aside0.mk (ZF_.out); clear ZF_ ZF BL8_1 BL8_2; clear hm_ hst_ hbl_) | ((with_reducible refine gate_dst (N := 8) rfl ?_); refine box_event ?hg (N := 8) ?hd (cs := #[.int .i64 0, .int .i64 0, .slice none 0 0]) (t := 25) ?hr ?_; (case hd => rfl); (case hg => rfl); (case hr => first | (go_simp; done) | (go_simp; rfl)); intro g8 hg_ w8_1 hm_ hb_; have BL8_1 := Aside0.mk (hb_); have ZF := Aside0.mk (hm_); have GGF := Aside0.mk (show w8.heap.size ≤ g8 by rw [hg_]; exact Nat.le_refl _); clear hm_ hb_ hg_) | (go_at_call 48; have hkey := B_7; clear hkey; refine (rBlank_calls _ HWH.out).mono ?_; rintro e w8 ⟨v9, rfl, hR, hb⟩; have QX := Aside0.mk (DX_7.out); have QY := Aside0.mk (DY_7.out); have QR := Aside0.mk (DR_7.out); have QE := Aside0.mk (DE_7.out); have QLx := Aside0.mk (Lx_7.out); have QLy := Aside0.mk (Ly_7.out); have QLe := Aside0.mk (Le_7.out); have QB := Aside0.mk (B_7.out); clear p0 p1; obtain ⟨go, co, hv9, hgo, hlt9, hty9⟩ := Kd.R_form hR (by rw [List.length_replicate, HNW.out]; exact HNB.out.1); rw [List.length_replicate, HNW.out] at hv9; subst hv9; have GO := Aside0.mk (show w7.heap.size ≤ go from hgo); have BQ_8 := Aside0.mk (hb); have U_8 := Aside0.mk (hR); have B_8 := Aside0.mk (below_step B_7.out hb); have DX_8 := Aside0.mk (blk_below DX_7.out hb); have DY_8 := Aside0.mk (blk_below DY_7.out hb); have DR_8 := Aside0.mk (blk_below DR_7.out hb); have DE_8 := Aside0.mk (blk_below DE_7.out hb); have Lx_8 := Aside0.mk (Lx_7.out.below hb); have Ly_8 := Aside0.mk (Ly_7.out.below hb); have Le_8 := Aside0.mk (Le_7.out.below hb); clear DX_7 DY_7 DR_7 DE_7 Lx_7 Ly_7 Le_7; clear hR hgo hlt9 hty9; clear hb) | ((with_reducible refine gate_store (p := 7) rfl ?_); refine storeP_event rfl rfl rfl g7 (U : Int) (T : Int) A5 n5 c5 _ _ _ rfl rfl ZE.out ?_; intro w7 hm_ hst_ hbl_; have BL6_2 := Aside0.mk (BL6_1.out.trans (hbl_ _ GGE.out)); have ZE_ := Aside0.mk hm_; have B_7 := Aside0.mk (below_step B_6.out BL6_2.out); have DX_7 := Aside0.mk (blk_below DX_6.out BL6_2.out); have DY_7 := Aside0.mk (blk_below DY_6.out BL6_2.out); have DR_7 := Aside0.mk (blk_below DR_6.out BL6_2.out); have Lx_7 := Aside0.mk (Lx_6.out.below BL6_2.out); have Ly_7 := Aside0.mk (Ly_6.out.below BL6_2.out); have Le_7 := Aside0.mk (Le_6.out.below BL6_2.out); clear DX_6 DY_6 DR_6 Lx_6 Ly_6 Le_6; have DE_7 := Aside0.mk (ZE_.out); clear ZE_ ZE BL6_1 BL6_2; clear hm_ hst_ hbl_; have p0 := (blk_cell DY_7.out 0).trans rfl; have p1 := (blk_cell DY_7.out 1).trans rfl) | ((with_reducible refine gate_dst (N := 7) rfl ?_); refine box_event ?hg (N := 7) ?hd (cs := #[.int .i64 0, .int .i64 0, .slice none 0 0]) (t := 25) ?hr ?_; (case hd => rfl); (case hg => rfl); (case hr => first | (go_simp; done) | (go_simp; rfl)); intro g7 hg_ w6_1 hm_ hb_; have BL6_1 := Aside0.mk (hb_); have ZE := Aside0.mk (hm_); have GGE := Aside0.mk (show w6.heap.size ≤ g7 by rw [hg_]; exact Nat.le_refl _); clear hm_ hb_ hg_) | (go_at_call 15; have hkey := B_5; clear hkey; refine (rExpand_ok W H p A n cap U T _ HP.out Lx_5.out HSZ.out HWU.out HHT.out).mono ?_; rw [HES.out]; rintro e w6 ⟨v5, rfl, hR, hb⟩; clear p0 p1; obtain ⟨A5, n5, c5, rfl, hL5⟩ := PL.of hR; have hn5 : n5 = m := hL5.2.2.symm.trans HEL.out; subst hn5; have B_6 := Aside0.mk (below_step B_5.out hb); have DX_6 := Aside0.mk (blk_below DX_5.out hb); have DY_6 := Aside0.mk (blk_below DY_5.out hb); have DR_6 := Aside0.mk (blk_below DR_5.out hb); have Lx_6 := Aside0.mk (Lx_5.out.below hb); have Ly_6 := Aside0.mk (Ly_5.out.below hb); clear DX_5 DY_5 DR_5 Lx_5 Ly_5; have Le_6 := Aside0.mk (hL5); clear hR; clear hb hL5) | ((with_reducible refine gate_dst (N := 23) rfl ?_); refine loadP_g rfl ?hw gX _ _ _ rfl DX_5.out ?_; (case hw => rfl)) | (go_at_call 44; have hkey := B_4; clear hkey; refine (rCheck_calls (U : Int) (T : Int) D m dcap _ HML.out).mono ?_; rw [HE2.out]; rintro e w5 ⟨rfl, hb⟩; clear p0 p1 p2; have B_5 := Aside0.mk (below_step B_4.out hb); have DX_5 := Aside0.mk (blk_below DX_4.out hb); have DY_5 := Aside0.mk (blk_below DY_4.out hb); have DR_5 := Aside0.mk (blk_below DR_4.out hb); have Lx_5 := Aside0.mk (Lx_4.out.below hb); have Ly_5 := Aside0.mk (Ly_4.out.below hb); clear DX_4 DY_4 DR_4 Lx_4 Ly_4; clear hb; have p0 := (blk_cell DY_5.out 0).trans rfl; have p1 := (blk_cell DY_5.out 1).trans rfl) | (go_at_call 44; have hkey := B_3; clear hkey; refine (rCheck_calls (W : Int) (H : Int) A n cap _ HNL.out).mono ?_; rw [HE1.out]; rintro e w4 ⟨rfl, hb⟩; clear p0 p1 p2; have B_4 := Aside0.mk (below_step B_3.out hb); have DX_4 := Aside0.mk (blk_below DX_3.out hb); have DY_4 := Aside0.mk (blk_below DY_3.out hb); have DR_4 := Aside0.mk (blk_below DR_3.out hb); have Lx_4 := Aside0.mk (Lx_3.out.below hb); have Ly_4 := Aside0.mk (Ly_3.out.below hb); clear DX_3 DY_3 DR_3 Lx_3 Ly_3; clear hb; have p0 := (blk_cell DY_4.out 0).trans rfl; have p1 := (blk_cell DY_4.out 1).trans rfl; have p2 := (blk_cell DY_4.out 2).trans rfl) | ((with_reducible refine gate_dst (N := 4) rfl ?_); refine box_event ?hg (N := 4) ?hd (cs := #[.int .i64 0, .int .i64 0, .slice none 0 0]) (t := 25) ?hr ?_; (case hd => rfl); (case hg => rfl); (case hr => first | (go_simp; done) | (go_simp; rfl)); intro gR hg_ w3 hm_ hb_; have GR := Aside0.mk (show w.heap.size ≤ gR by rw [hg_]; exact B_2.out.size); have B_3 := Aside0.mk (below_step B_2.out hb_); have DX_3 := Aside0.mk (blk_below DX_2.out hb_); have DY_3 := Aside0.mk (blk_below DY_2.out hb_); have Lx_3 := Aside0.mk (Lx_2.out.below hb_); have Ly_3 := Aside0.mk (Ly_2.out.below hb_); clear DX_2 DY_2 Lx_2 Ly_2; have DR_3 := Aside0.mk (hm_); clear hm_ hb_ hg_; have p0 := (blk_cell DX_3.out 0).trans rfl; have p1 := (blk_cell DX_3.out 1).trans rfl; have p2 := (blk_cell DX_3.out 2).trans rfl) | ((with_reducible refine gate_dst (N := 3) rfl ?_); refine box_event ?hg (N := 3) ?hd (cs := #[.int .i64 (U : Int), .int .i64 (T : Int), .slice D m dcap]) (t := 25) ?hr ?_; (case hd => rfl); (case hg => rfl); (case hr => first | (go_simp; done) | (go_simp; rfl)); intro gY hg_ w2 hm_ hb_; have B_2 := Aside0.mk (below_step B_1.out hb_); have DX_2 := Aside0.mk (blk_below DX_1.out hb_); have Lx_2 := Aside0.mk (Lx_1.out.below hb_); have Ly_2 := Aside0.mk (Ly_1.out.below hb_); clear DX_1 Lx_1 Ly_1; have DY_2 := Aside0.mk (hm_); clear hm_ hb_ hg_) | ((with_reducible refine gate_dst (N := 2) rfl ?_); refine box_event ?hg (N := 2) ?hd (cs := #[.int .i64 (W : Int), .int .i64 (H : Int), .slice A n cap]) (t := 25) ?hr ?_; (case hd => rfl); (case hg => rfl); (case hr => first | (go_simp; done) | (go_simp; rfl)); intro gX hg_ w1 hm_ hb_; have B_1 := Aside0.mk (below_step B_0.out hb_); have Lx_1 := Aside0.mk (Lx_0.out.below hb_); have Ly_1 := Aside0.mk (Ly_0.out.below hb_); clear Lx_0 Ly_0; have DX_1 := Aside0.mk (hm_); clear hm_ hb_ hg_))
 have M0 : Aside0 (M3 w7 g8 U T go n5 co w9 (List.replicate (U * T) 0)) := ⟨⟨U_9.out, DF_9.out, BQ_9.out⟩⟩
 rw [HNW.out] at M0
 have HL0 : Aside0 (List.replicate n5 0 = layTo (fun j => addA (gt q j) (gt es j)) n5 0) := ⟨(layTo_zero _ _).symm⟩
 obtain ⟨ys0, hys0⟩ : ∃ ys0, List.replicate n5 0 = ys0 := ⟨_, rfl⟩
 rw [hys0] at HL0 M0
 clear hys0 U_9 BQ_9
 go_loopw [9] (fun iv wr => ∃ (i : Nat) (ys : List Nat), i ≤ n5 ∧ iv = .int .i64 (i : Int) ∧ Aside0 (ys = layTo (fun j => addA (gt q j) (gt es j)) n5 i) ∧ Aside0 (M3 w7 g8 U T go n5 co wr ys)) (fun iv _ => n5 - (intOf iv).toNat)
 case atStart => exact ⟨0, ys0, Nat.zero_le _, rfl, HL0, M0⟩
 case round =>
  clear M0 HL0
  obtain ⟨i, ys, hi, rfl, HY, HM⟩ := hrel
  have z2 := (blk_cell HM.out.2.1 2).trans rfl
  by_cases hlt : i < n5
  ·have c1 : decide ((i : Int) < (n5 : Int)) = true := decide_eq_true (by omega)
   have i1 : ((i : Int) < (n5 : Int)) = True := eq_true (by omega)
   have hb1 := HNB.out.2
   obtain ⟨b, hb⟩ : ∃ b, gt es i = b := ⟨_, rfl⟩
   obtain ⟨a, ha⟩ : ∃ a, gt q i = a := ⟨_, rfl⟩
   have HA : Aside0 (a < 4294967296) := ⟨by rw [← ha]; exact HXX.out i⟩
   have HB : Aside0 (b < 4294967296) := ⟨by rw [← hb]; exact HEX.out i⟩
   obtain ⟨adp, hA, hxa⟩ := C_nat (Kd.C_below QLy.out.1 HM.out.2.2) i hlt
   subst hA
   rw [ha] at hxa
   obtain ⟨ade, hA, hxe⟩ := C_nat (Kd.C_below QLe.out.1 HM.out.2.2) i hlt
   subst hA
   rw [hb] at hxe
   obtain ⟨kb, hkb⟩ : ∃ k, key b = k := ⟨_, rfl⟩
   have HKB := Aside0.mk hkb
   obtain ⟨sm, hsm⟩ : ∃ k, (kb + a) % 4294967296 = k := ⟨_, rfl⟩
   have HSM : Aside0 (sm < 4294967296) := ⟨by rw [← hsm]; exact Nat.mod_lt _ (by decide)⟩
   obtain ⟨d, hd⟩ : ∃ d, fromKey sm = d := ⟨_, rfl⟩
   have HFK := Aside0.mk hd
   have hda : addA a b = d := by rw [← hd, ← hsm, ← hkb]; rfl
   have e1 : IntKind.u32.wrap ((a : Int) + (kb : Int)) = (sm : Int) := by
    rw [← hsm]; simp only [IntKind.wrap_u32]; omega
   have HYS : Aside0 (ys.set i d = layTo (fun j => addA (gt q j) (gt es j)) n5 (i + 1)) := ⟨by rw [HY.out, ← layTo_succ _ hlt, ha, hb, hda]⟩
   have HLT := Aside0.mk hlt
   have HXA := Aside0.mk hxa
   have HXE := Aside0.mk hxe
   clear hb ha hkb hd hda hsm hxa hxe
   go_upto_region 14 with (fail)
   have MM0 := Aside0.mk (M3_drew HM.out)
   have PP0 := Aside0.mk (blk_below QY.out MM0.out.2.2)
   have EE0 := Aside0.mk (blk_below QE.out MM0.out.2.2)
   have XX0 : Aside0 (wr.drew.cell? (adp.add i) = some (.int .u32 (a : Int))) := ⟨HXA.out⟩
   have XE0 : Aside0 (wr.drew.cell? (ade.add i) = some (.int .u32 (b : Int))) := ⟨HXE.out⟩
   clear z2 HM
   refine start_ (n := 18) (S := fun w' => w'.cell? ⟨g8, 2, none⟩ = some (.slice (some ⟨go, 0, none⟩) n5 co) ∧ w'.cell? ⟨gY, 2, none⟩ = some (.slice (some adp) n5 dcap) ∧ w'.cell? (adp.add i) = some (.int .u32 (a : Int)) ∧ w'.cell? ⟨g7, 2, none⟩ = some (.slice (some ade) n5 c5) ∧ w'.cell? (ade.add i) = some (.int .u32 (b : Int))) (ds := [17]) #[ff_,ff_,ff_,ff_,ff_,ff_,ff_,ff_,ff_,ff_,ff_,ff_,ff_,ff_,ff_,ff_,ff_,ff_] (by kernel_rfl) rfl rfl ⟨(blk_cell MM0.out.2.1 2).trans rfl, (blk_cell PP0.out 2).trans rfl, XX0.out, (blk_cell EE0.out 2).trans rfl, XE0.out⟩ (fun hHeld => ?_)
   generalize wr.drew = w70 at *
   refine pure_ (i := 0) (N := some 47) (v := ?_) (a' := ?_) #[tt_,ff_,ff_,ff_,ff_,ff_,ff_,ff_,ff_,ff_,ff_,ff_,ff_,ff_,ff_,ff_,ff_,ff_] rfl rfl (by kernel_rfl) (fun _ _ _ h => h) (Or.inl ⟨by rfl, ?_⟩) ?_ ?_
   rotate_left
   ·intro w'
    go_simp
    with_reducible rfl
   rotate_left
   ·simp only [Act.put, List.setIfInBounds_toArray, List.set_cons_zero, List.set_cons_succ, i64_w, i32_w]
    rfl
   refine pure_ (i := 2) (N := some 49) (v := ?_) (a' := ?_) #[tt_,ff_,tt_,ff_,ff_,ff_,ff_,ff_,ff_,ff_,ff_,ff_,ff_,ff_,ff_,ff_,ff_,ff_] rfl rfl (by kernel_rfl) (fun _ _ _ h => h) (Or.inl ⟨by rfl, ?_⟩) ?_ ?_
   rotate_left
   ·intro w'
    go_simp
    with_reducible rfl
   rotate_left
   ·simp only [Act.put, List.setIfInBounds_toArray, List.set_cons_zero, List.set_cons_succ, i64_w, i32_w]
    rfl
   refine pure_ (i := 3) (N := some 50) (v := ?_) (a' := ?_) #[tt_,ff_,tt_,tt_,ff_,ff_,ff_,ff_,ff_,ff_,ff_,ff_,ff_,ff_,ff_,ff_,ff_,ff_] rfl rfl (by kernel_rfl) (fun _ _ _ h => h) (Or.inl ⟨by rfl, ?_⟩) ?_ ?_
   rotate_left
   ·intro w'
    go_simp
    with_reducible rfl
   rotate_left
   ·simp only [Act.put, List.setIfInBounds_toArray, List.set_cons_zero, List.set_cons_succ, i64_w, i32_w]
    rfl
   refine pure_ (i := 5) (N := some 52) (v := ?_) (a' := ?_) #[tt_,ff_,tt_,tt_,ff_,tt_,ff_,ff_,ff_,ff_,ff_,ff_,ff_,ff_,ff_,ff_,ff_,ff_] rfl rfl (by kernel_rfl) (fun _ _ _ h => h) (Or.inl ⟨by rfl, ?_⟩) ?_ ?_
   rotate_left
   ·intro w'
    go_simp
    with_reducible rfl
   rotate_left
   ·simp only [Act.put, List.setIfInBounds_toArray, List.set_cons_zero, List.set_cons_succ, i64_w, i32_w]
    rfl
   refine pure_ (i := 8) (N := some 55) (v := ?_) (a' := ?_) #[tt_,ff_,tt_,tt_,ff_,tt_,ff_,ff_,tt_,ff_,ff_,ff_,ff_,ff_,ff_,ff_,ff_,ff_] rfl rfl (by kernel_rfl) (fun _ _ _ h => h) (Or.inl ⟨by rfl, ?_⟩) ?_ ?_
   rotate_left
   ·intro w'
    go_simp
    with_reducible rfl
   rotate_left
   ·simp only [Act.put, List.setIfInBounds_toArray, List.set_cons_zero, List.set_cons_succ, i64_w, i32_w]
    rfl
   refine pure_ (i := 10) (N := some 57) (v := ?_) (a' := ?_) #[tt_,ff_,tt_,tt_,ff_,tt_,ff_,ff_,tt_,ff_,tt_,ff_,ff_,ff_,ff_,ff_,ff_,ff_] rfl rfl (by kernel_rfl) (fun _ _ _ h => h) (Or.inl ⟨by rfl, ?_⟩) ?_ ?_
   rotate_left
   ·intro w'
    go_simp
    with_reducible rfl
   rotate_left
   ·simp only [Act.put, List.setIfInBounds_toArray, List.set_cons_zero, List.set_cons_succ, i64_w, i32_w]
    rfl
   refine take_ (i := 1) (N := some 48) (v := ?_) (a' := ?_) #[tt_,tt_,tt_,tt_,ff_,tt_,ff_,ff_,tt_,ff_,tt_,ff_,ff_,ff_,ff_,ff_,ff_,ff_] rfl rfl (by kernel_rfl) (fun _ _ _ h => h) (Or.inl ⟨by rfl, ?_⟩) hHeld ?_ ?_
   rotate_left
   ·rintro w' ⟨s0, s1, s2, s3, s4⟩
    go_simp
    with_reducible rfl
   rotate_left
   ·simp only [Act.put, List.setIfInBounds_toArray, List.set_cons_zero, List.set_cons_succ, i64_w, i32_w]
    rfl
   refine take_ (i := 4) (N := some 51) (v := ?_) (a' := ?_) #[tt_,tt_,tt_,tt_,tt_,tt_,ff_,ff_,tt_,ff_,tt_,ff_,ff_,ff_,ff_,ff_,ff_,ff_] rfl rfl (by kernel_rfl) (fun _ _ _ h => h) (Or.inl ⟨by rfl, ?_⟩) hHeld ?_ ?_
   rotate_left
   ·rintro w' ⟨s0, s1, s2, s3, s4⟩
    go_simp
    with_reducible rfl
   rotate_left
   ·simp only [Act.put, List.setIfInBounds_toArray, List.set_cons_zero, List.set_cons_succ, i64_w, i32_w]
    rfl
   refine pure_ (i := 6) (N := some 53) (v := ?_) (a' := ?_) #[tt_,tt_,tt_,tt_,tt_,tt_,tt_,ff_,tt_,ff_,tt_,ff_,ff_,ff_,ff_,ff_,ff_,ff_] rfl rfl (by kernel_rfl) (fun _ _ _ h => h) (Or.inl ⟨by rfl, ?_⟩) ?_ ?_
   rotate_left
   ·intro w'
    go_simp
    with_reducible rfl
   rotate_left
   ·simp only [Act.put, List.setIfInBounds_toArray, List.set_cons_zero, List.set_cons_succ, i64_w, i32_w]
    rfl
   refine take_ (i := 7) (N := some 54) (v := ?_) (a' := ?_) #[tt_,tt_,tt_,tt_,tt_,tt_,tt_,tt_,tt_,ff_,tt_,ff_,ff_,ff_,ff_,ff_,ff_,ff_] rfl rfl (by kernel_rfl) (fun _ _ _ h => h) (Or.inl ⟨by rfl, ?_⟩) hHeld ?_ ?_
   rotate_left
   ·rintro w' ⟨s0, s1, s2, s3, s4⟩
    go_simp
    with_reducible rfl
   rotate_left
   ·simp only [Act.put, List.setIfInBounds_toArray, List.set_cons_zero, List.set_cons_succ, i64_w, i32_w]
    rfl
   refine take_ (i := 9) (N := some 56) (v := ?_) (a' := ?_) #[tt_,tt_,tt_,tt_,tt_,tt_,tt_,tt_,tt_,tt_,tt_,ff_,ff_,ff_,ff_,ff_,ff_,ff_] rfl rfl (by kernel_rfl) (fun _ _ _ h => h) (Or.inl ⟨by rfl, ?_⟩) hHeld ?_ ?_
   rotate_left
   ·rintro w' ⟨s0, s1, s2, s3, s4⟩
    go_simp
    with_reducible rfl
   rotate_left
   ·simp only [Act.put, List.setIfInBounds_toArray, List.set_cons_zero, List.set_cons_succ, i64_w, i32_w]
    rfl
   refine pure_ (i := 11) (N := some 58) (v := ?_) (a' := ?_) #[tt_,tt_,tt_,tt_,tt_,tt_,tt_,tt_,tt_,tt_,tt_,tt_,ff_,ff_,ff_,ff_,ff_,ff_] rfl rfl (by kernel_rfl) (fun _ _ _ h => h) (Or.inl ⟨by rfl, ?_⟩) ?_ ?_
   rotate_left
   ·intro w'
    go_simp
    with_reducible rfl
   rotate_left
   ·simp only [Act.put, List.setIfInBounds_toArray, List.set_cons_zero, List.set_cons_succ, i64_w, i32_w]
    rfl
   refine take_ (i := 12) (N := some 59) (v := ?_) (a' := ?_) #[tt_,tt_,tt_,tt_,tt_,tt_,tt_,tt_,tt_,tt_,tt_,tt_,tt_,ff_,ff_,ff_,ff_,ff_] rfl rfl (by kernel_rfl) (fun _ _ _ h => h) (Or.inl ⟨by rfl, ?_⟩) hHeld ?_ ?_
   rotate_left
   ·rintro w' ⟨s0, s1, s2, s3, s4⟩
    go_simp
    with_reducible rfl
   rotate_left
   ·simp only [Act.put, List.setIfInBounds_toArray, List.set_cons_zero, List.set_cons_succ, i64_w, i32_w]
    rfl
   refine one_ (i := 13) (N := some 60) #[tt_,tt_,tt_,tt_,tt_,tt_,tt_,tt_,tt_,tt_,tt_,tt_,tt_,tt_,ff_,ff_,ff_,ff_] rfl rfl (by kernel_rfl) (by decide) (fun K hK => ?_)
   refine goes_ Try.func64 (by kernel_rfl) rfl #[.int .u32 (b : Int)] (by rfl) rfl rfl (by (try simp only [List.map_toArray, List.map_cons, List.map_nil]); rfl) ?_
   with_reducible refine (rKey_calls b _ HB.out).mono ?_
   rw [HKB.out]
   rintro e w71 ⟨rfl, hb⟩
   refine ⟨_, rfl, ?_⟩
   have MM1 := Aside0.mk (M3_below MM0.out hb)
   have PP1 := Aside0.mk (blk_below PP0.out hb)
   have EE1 := Aside0.mk (blk_below EE0.out hb)
   have XX1 := Aside0.mk (pw_cell_below hb XX0.out)
   have XE1 := Aside0.mk (pw_cell_below hb XE0.out)
   clear hb
   refine hK.out _ _ ⟨(blk_cell MM1.out.2.1 2).trans rfl, (blk_cell PP1.out 2).trans rfl, XX1.out, (blk_cell EE1.out 2).trans rfl, XE1.out⟩ (fun hHeld => ?_)
   clear hK K
   refine norm_ (a' := ?_) ?_ ?_
   rotate_left
   ·show Act.put _ (some 60) _ = _
    simp only [Act.put, List.setIfInBounds_toArray, List.set_cons_zero, List.set_cons_succ, i64_w, i32_w]
    rfl
   refine pure_ (i := 14) (N := some 61) (v := ?_) (a' := ?_) #[tt_,tt_,tt_,tt_,tt_,tt_,tt_,tt_,tt_,tt_,tt_,tt_,tt_,tt_,tt_,ff_,ff_,ff_] rfl rfl (by kernel_rfl) (fun _ _ _ h => h) (Or.inl ⟨by rfl, ?_⟩) ?_ ?_
   rotate_left
   ·intro w'
    go_simp
    with_reducible rfl
   rotate_left
   ·simp only [Act.put, List.setIfInBounds_toArray, List.set_cons_zero, List.set_cons_succ, i64_w, i32_w]
    rfl
   refine one_ (i := 15) (N := some 62) #[tt_,tt_,tt_,tt_,tt_,tt_,tt_,tt_,tt_,tt_,tt_,tt_,tt_,tt_,tt_,tt_,ff_,ff_] rfl rfl (by kernel_rfl) (by decide) (fun K hK => ?_)
   refine goes_ Try.func65 (by kernel_rfl) rfl #[.int .u32 (sm : Int)] (by rfl) rfl rfl (by (try simp only [List.map_toArray, List.map_cons, List.map_nil]); rfl) ?_
   with_reducible refine (rFromKey_calls sm _ HSM.out).mono ?_
   rw [HFK.out]
   rintro e w72 ⟨rfl, hb⟩
   refine ⟨_, rfl, ?_⟩
   have MM2 := Aside0.mk (M3_below MM1.out hb)
   have PP2 := Aside0.mk (blk_below PP1.out hb)
   have EE2 := Aside0.mk (blk_below EE1.out hb)
   have XX2 := Aside0.mk (pw_cell_below hb XX1.out)
   have XE2 := Aside0.mk (pw_cell_below hb XE1.out)
   clear hb
   have z1 := (M3_cell MM2.out i HLT.out).1
   have zf := (M3_cell MM2.out i HLT.out).2
   refine hK.out _ _ ⟨(blk_cell MM2.out.2.1 2).trans rfl, (blk_cell PP2.out 2).trans rfl, XX2.out, (blk_cell EE2.out 2).trans rfl, XE2.out⟩ (fun hHeld => ?_)
   clear hK K
   refine norm_ (a' := ?_) ?_ ?_
   rotate_left
   ·show Act.put _ (some 62) _ = _
    simp only [Act.put, List.setIfInBounds_toArray, List.set_cons_zero, List.set_cons_succ, i64_w, i32_w]
    rfl
   refine pure_ (i := 16) (N := some 63) (v := ?_) (a' := ?_) #[tt_,tt_,tt_,tt_,tt_,tt_,tt_,tt_,tt_,tt_,tt_,tt_,tt_,tt_,tt_,tt_,tt_,ff_] rfl rfl (by kernel_rfl) (fun _ _ _ h => h) (Or.inl ⟨by rfl, ?_⟩) ?_ ?_
   rotate_left
   ·intro w'
    go_simp
    with_reducible rfl
   rotate_left
   ·simp only [Act.put, List.setIfInBounds_toArray, List.set_cons_zero, List.set_cons_succ, i64_w, i32_w]
    rfl
   refine last_ (i := 17) (N := none) #[tt_,tt_,tt_,tt_,tt_,tt_,tt_,tt_,tt_,tt_,tt_,tt_,tt_,tt_,tt_,tt_,tt_,tt_] rfl rfl (by kernel_rfl) (by decide) (fun K hK => ?_)
   refine skip_ (w1 := ?_) (by rfl) rfl ?_ ?_
   rotate_left
   ·go_simp
    rfl
   refine hK.out _ _ ?_
   clear hK K
   refine done_ (by kernel_rfl) ?_
   have MN := Aside0.mk (M3_put MM2.out i d GO.out)
   generalize w72.setCell ⟨go, i, none⟩ (.int .u32 (d : Int)) = wn at *
   clear z1 zf MM0 PP0 EE0 XX0 XE0 MM1 PP1 EE1 XX1 XE1 MM2 PP2 EE2 XX2 XE2 hHeld
   go_wp2
   go_roundw
   case measure => simp [intOf]; have := HLT.out; omega
   case rel => exact ⟨i + 1, ys.set i d, HLT.out, by go_num, HYS, MN⟩
  ·obtain rfl : n5 = i := by omega
   have c1 : decide ((n5 : Int) < (n5 : Int)) = false := decide_eq_false (by omega)
   have o0 := (blk_cell HM.out.2.1 0).trans rfl
   have o1 := (blk_cell HM.out.2.1 1).trans rfl
   have RR := Aside0.mk (blk_below QR.out HM.out.2.2)
   have BB := Aside0.mk (below_step QB.out HM.out.2.2)
   go_wp2_with (first | ((with_reducible refine gate_store (p := 4) rfl ?_); refine storeP_event rfl rfl rfl gR (U : Int) (T : Int) (some ⟨go, 0, none⟩) n5 co _ _ _ rfl rfl RR.out ?_; intro w60 hm_ hst_ hbl_; have R60 := Aside0.mk (hm_); have U60 := Aside0.mk (Kd.R_mono (Kd.R_move (Kd.R_types HM.out.1 RR.out (by decide)) (fun k hk => hst_ k hk.2)) (ok' := fun _ => True) (fun _ _ => trivial)); have B60 := Aside0.mk (BB.out.trans (hbl_ _ GR.out)); clear hm_ hst_ hbl_))
   refine bodyPost_ret (results_ct rfl _ _ gR 25 #[.int .i64 (U : Int), .int .i64 (T : Int), .slice (some ⟨go, 0, none⟩) n5 co] (0, 0) _ rfl R60.out Try.underlying25 rfl (by kernel_rfl)) rfl ?_
   exact ⟨_, rfl, by rw [← HY.out]; exact Kd.R_lower U60.out QB.out.size, B60.out⟩
end Go.Proofs.Ytodlgdpkadkjjaa.A
end
section
set_option linter.unusedVariables false
set_option linter.unusedSimpArgs false
namespace Go.Proofs.Ytodlgdpkadkjjaa.A
open Go.RowKit Go.Shelf Go.Proofs.YtodlgdpkadkjjaaW.PrintWords Go.Proofs.YtodlgdpkadkjjaaW.PrintLast Go.Proofs.YtodlgdpkadkjjaaW.PrintMore Go.Proofs.Ytodlgdpkadkjjaa.PPyramidLevels
def finO (x y : Int) (p : List Nat) : PO := if checkE x y p.length = 0 then ⟨x, y, finS x.toNat y.toNat p, 0⟩ else ⟨0, 0, [], checkE x y p.length⟩
def joiO (x y : Int) (p : List Nat) (u v : Int) (q : List Nat) : PO := if checkE x y p.length = 0 then (if checkE u v q.length = 0 then (if hf u.toNat = x.toNat ∧ hf v.toNat = y.toNat then ⟨u, v, joiS x.toNat y.toNat u.toNat v.toNat p q, 0⟩ else ⟨0, 0, [], 141⟩) else ⟨0, 0, [], checkE u v q.length⟩) else ⟨0, 0, [], checkE x y p.length⟩
def Far (A B : Option Addr) : Prop := ∀ a b, A = some a → B = some b → a.block ≠ b.block
def Out2 (w : World) (o f : PO) (e : Ending) (w' : World) : Prop := ∃ A n c A2 n2 c2, e = .returned (.tuple #[.agg #[.int .i64 o.x, .int .i64 o.y, .slice A n c], .agg #[.int .i64 f.x, .int .i64 f.y, .slice A2 n2 c2], .int .i64 (o.e : Int)]) ∧ Ow .u32 50 w' w.heap.size (.slice A n c) o.s ∧ Ow .u32 50 w' w.heap.size (.slice A2 n2 c2) f.s ∧ Far A A2 ∧ Below w.heap.size w w'
section
variable {x y : Int} {A : Option Addr} {n c : Nat} {p : List Nat} {w : World}
theorem out2_bad {E : Nat} {f : FuncId} {args : Array Value} (h : Calls Try.prog f args w fun e w' => e = .returned (.tuple #[.agg #[.int .i64 0, .int .i64 0, .slice none 0 0], .agg #[.int .i64 0, .int .i64 0, .slice none 0 0], .int .i64 (E : Int)]) ∧ Below w.heap.size w w') : Calls Try.prog f args w (Out2 w ⟨0, 0, [], E⟩ ⟨0, 0, [], E⟩) :=
 h.mono fun e w' h => ⟨_, _, _, _, _, _, h.1, .inl ⟨rfl, rfl⟩, .inl ⟨rfl, rfl⟩, fun a b h => (by cases h), h.2⟩
theorem own_some {ok : Nat → Prop} {B : Nat} {xs : List Nat} {A : Option Addr} {n c : Nat} (h : (nat .u32).R 50 w B ok (.slice A n c) xs) : ∀ a, A = some a → ok a.block := fun a hA => h.1 _ (by rw [hA]; rfl)
theorem Split_any (h : PL w A n c p) (hx : ∀ i, gt p i < 4294967296) : Calls Try.prog 25 #[.agg #[.int .i64 x, .int .i64 y, .slice A n c]] w (Out2 w (redO x y p) (finO x y p)) := by
 have hl := h.2.2
 have hn : n < 9223372036854775808 := by have := h.1.2.1; omega
 subst hl
 unfold redO finO
 by_cases hE : checkE x y p.length = 0
 ·rw [if_pos hE, if_pos hE]
  obtain ⟨W, H, rfl, rfl, h1, h2, h3, h4, h5, h6⟩ := checkE_zero hE
  rw [Int.toNat_natCast, Int.toNat_natCast]
  refine (Split_ok W H p A _ c w (okP_of hx h1 h2 h3 h4 h5 h6) rfl h.1 h.2.1).mono ?_
  rintro e w' ⟨v, u, B, rfl, hB, hR, hR2, hb⟩
  obtain ⟨A1, c1, rfl, _, _⟩ := Kd.R_reads hR
  obtain ⟨A2, c2, rfl, _, _⟩ := Kd.R_reads hR2
  refine ⟨A1, _, c1, A2, _, c2, rfl, Ow.of_R (Kd.R_mono hR (fun _ _ => trivial)), Ow.mono (Ow.of_R hR2) (Below.refl _ _) hB, fun a b ha hb' => ?_, hb⟩
  have h1 := own_some hR a ha
  have h2 := Ow.lo (Ow.of_R hR2) b hb'
  omega
 ·rw [if_neg hE, if_neg hE]; exact out2_bad (Split_bad x y A _ c w hn hE)
def Out2r (w : World) (o f : PO) (e : Ending) (w' : World) : Prop := ∃ A n c A2 n2 c2, e = .returned (.tuple #[.agg #[.int .i64 o.x, .int .i64 o.y, .slice A n c], .agg #[.int .i64 f.x, .int .i64 f.y, .slice A2 n2 c2], .int .i64 (o.e : Int)]) ∧ Ow .u32 50 w' w.heap.size (.slice A n c) o.s ∧ Ow .u32 50 w' w.heap.size (.slice A2 n2 c2) f.s ∧ Below w.heap.size w w'
theorem rSplit_any (h : PL w A n c p) (hx : ∀ i, gt p i < 4294967296) : Calls Try.prog 31 #[.agg #[.int .i64 x, .int .i64 y, .slice A n c]] w (Out2r w (redO x y p) (finO x y p)) := by
 have hl := h.2.2
 have hn : n < 9223372036854775808 := by have := h.1.2.1; omega
 subst hl
 unfold redO finO
 by_cases hE : checkE x y p.length = 0
 ·rw [if_pos hE, if_pos hE]
  obtain ⟨W, H, rfl, rfl, h1, h2, h3, h4, h5, h6⟩ := checkE_zero hE
  rw [Int.toNat_natCast, Int.toNat_natCast]
  refine (rSplit_ok W H p A _ c w (okP_of hx h1 h2 h3 h4 h5 h6) h).mono ?_
  rintro e w' ⟨v, u, rfl, hR, hR2, hb⟩
  obtain ⟨A1, c1, rfl, _, _⟩ := Kd.R_reads hR
  obtain ⟨A2, c2, rfl, _, _⟩ := Kd.R_reads hR2
  exact ⟨A1, _, c1, A2, _, c2, rfl, Ow.of_R hR, Ow.of_R hR2, hb⟩
 ·rw [if_neg hE, if_neg hE]
  exact (rSplit_bad x y A _ c p w h hn hE).mono fun e w' h => ⟨_, _, _, _, _, _, h.1, .inl ⟨rfl, rfl⟩, .inl ⟨rfl, rfl⟩, h.2⟩
variable {u v : Int} {D : Option Addr} {m d : Nat} {q : List Nat}
theorem Join_any (h : PL w A n c p) (hx : ∀ i, gt p i < 4294967296) (h2 : PL w D m d q) (hy : ∀ i, gt q i < 4294967296) : Calls Try.prog 33 #[.agg #[.int .i64 x, .int .i64 y, .slice A n c], .agg #[.int .i64 u, .int .i64 v, .slice D m d]] w (Out1 w (joiO x y p u v q)) := by
 have hl := h.2.2
 have hn : n < 9223372036854775808 := by have := h.1.2.1; omega
 have hl2 := h2.2.2
 have hm : m < 9223372036854775808 := by have := h2.1.2.1; omega
 subst hl hl2
 unfold joiO
 by_cases hE : checkE x y p.length = 0
 ·rw [if_pos hE]
  by_cases hE2 : checkE u v q.length = 0
  ·rw [if_pos hE2]
   obtain ⟨W, H, rfl, rfl, h1, h2', h3, h4, h5, h6⟩ := checkE_zero hE
   obtain ⟨U, T, rfl, rfl, k1, k2, k3, k4, k5, k6⟩ := checkE_zero hE2
   rw [Int.toNat_natCast, Int.toNat_natCast, Int.toNat_natCast, Int.toNat_natCast]
   by_cases hW : hf U = W
   ·by_cases hH : hf T = H
    ·rw [if_pos ⟨hW, hH⟩]; exact out_ok (Join_ok W H A _ c U T D _ d p q w (okP_of hx h1 h2' h3 h4 h5 h6) (okP_of hy k1 k2 k3 k4 k5 k6) rfl rfl h.1 h.2.1 h2.1 hW hH)
    ·rw [if_neg (fun h => hH h.2)]; exact out_bad (Join_high W H A _ c U T D _ d w hE hE2 hW hH)
   ·rw [if_neg (fun h => hW h.1)]; exact out_bad (Join_wide W H A _ c U T D _ d w hE hE2 hW)
  ·rw [if_neg hE2]; exact out_bad (Join_bad2 x y A _ c u v D _ d w hn hm hE hE2)
 ·rw [if_neg hE]; exact out_bad (Join_bad1 x y A _ c u v D _ d w hn hE)
theorem rJoin_any (h : PL w A n c p) (hx : ∀ i, gt p i < 4294967296) (h2 : PL w D m d q) (hy : ∀ i, gt q i < 4294967296) : Calls Try.prog 32 #[.agg #[.int .i64 x, .int .i64 y, .slice A n c], .agg #[.int .i64 u, .int .i64 v, .slice D m d]] w (Out1 w (joiO x y p u v q)) := by
 have hl := h.2.2
 have hl2 := h2.2.2
 subst hl hl2
 unfold joiO
 by_cases hE : checkE x y p.length = 0
 ·rw [if_pos hE]
  by_cases hE2 : checkE u v q.length = 0
  ·rw [if_pos hE2]
   obtain ⟨W, H, rfl, rfl, h1, h2', h3, h4, h5, h6⟩ := checkE_zero hE
   obtain ⟨U, T, rfl, rfl, k1, k2, k3, k4, k5, k6⟩ := checkE_zero hE2
   rw [Int.toNat_natCast, Int.toNat_natCast, Int.toNat_natCast, Int.toNat_natCast]
   by_cases hWH : hf U = W ∧ hf T = H
   ·rw [if_pos hWH]; exact out_ok (rJoin_ok W H U T A D _ c _ d p q w h h2 (okP_of hx h1 h2' h3 h4 h5 h6) (okP_of hy k1 k2 k3 k4 k5 k6) hWH.1 hWH.2)
   ·rw [if_neg hWH]
    refine out_bad (rJoin_form _ _ _ _ A D _ c _ d p q w h h2 hx hE hE2 ?_)
    unfold expO
    rw [if_pos hE, if_neg (by rw [Int.toNat_natCast, Int.toNat_natCast, Int.toNat_natCast, Int.toNat_natCast]; exact fun h => hWH h.2)]
  ·rw [if_neg hE2]; exact out_bad (rJoin_bad2 x y u v A D _ c _ d p q w h h2 hE hE2)
 ·rw [if_neg hE]; exact out_bad (rJoin_bad1 x y u v A D _ c _ d p q w h h2 hE)
end
theorem finO_len (x y : Int) (p : List Nat) : (finO x y p).s.length ≤ 1048576 := by
 unfold finO
 split
 ·rename_i hE
  obtain ⟨W, H, rfl, rfl, h1, h2, h3, h4, h5, h6⟩ := checkE_zero hE
  rw [Int.toNat_natCast, Int.toNat_natCast]
  show (finS W H p).length ≤ 1048576
  rw [finS_length]
  omega
 ·exact Nat.zero_le _
theorem joiO_len (x y : Int) (p : List Nat) (u v : Int) (q : List Nat) : (joiO x y p u v q).s.length ≤ 1048576 := by
 unfold joiO
 split
 ·split
  ·split
   ·rename_i _ hE2 _
    obtain ⟨U, T, rfl, rfl, k1, k2, k3, k4, k5, k6⟩ := checkE_zero hE2
    rw [Int.toNat_natCast, Int.toNat_natCast]
    show (joiS x.toNat y.toNat U T p q).length ≤ 1048576
    rw [joiS_length]
    omega
   ·exact Nat.zero_le _
  ·exact Nat.zero_le _
 ·exact Nat.zero_le _
theorem Out2_as {f : FuncId} {args : Array Value} {w : World} {o g : PO} {ax ay fx fy : Int} {al fl : List Nat} {ae fe : Nat} (h : Calls Try.prog f args w (Out2 w o g)) (e : o = ⟨ax, ay, al, ae⟩) (e2 : g = ⟨fx, fy, fl, fe⟩) :
    Calls Try.prog f args w fun e w' => ∃ A n c A2 n2 c2, e = .returned (.tuple #[.agg #[.int .i64 ax, .int .i64 ay, .slice A n c], .agg #[.int .i64 fx, .int .i64 fy, .slice A2 n2 c2], .int .i64 (ae : Int)]) ∧ Ow .u32 50 w' w.heap.size (.slice A n c) al ∧ Ow .u32 50 w' w.heap.size (.slice A2 n2 c2) fl ∧ Far A A2 ∧ Below w.heap.size w w' := by
 subst e e2
 exact h
theorem Out2r_as {f : FuncId} {args : Array Value} {w : World} {o g : PO} {ax ay fx fy : Int} {al fl : List Nat} {ae fe : Nat} (h : Calls Try.prog f args w (Out2r w o g)) (e : o = ⟨ax, ay, al, ae⟩) (e2 : g = ⟨fx, fy, fl, fe⟩) :
    Calls Try.prog f args w fun e w' => ∃ A n c A2 n2 c2, e = .returned (.tuple #[.agg #[.int .i64 ax, .int .i64 ay, .slice A n c], .agg #[.int .i64 fx, .int .i64 fy, .slice A2 n2 c2], .int .i64 (ae : Int)]) ∧ Ow .u32 50 w' w.heap.size (.slice A n c) al ∧ Ow .u32 50 w' w.heap.size (.slice A2 n2 c2) fl ∧ Below w.heap.size w w' := by
 subst e e2
 exact h
theorem Ow.keep {w w' : World} {B n c : Nat} {A A1 : Option Addr} {xs : List Nat} (h : Ow .u32 50 w B (.slice A n c) xs) (hz : KeepB A1 w w') (hf : Far A1 A) : Ow .u32 50 w' B (.slice A n c) xs := by
 rcases h with h | ⟨r, cap, cur, e, h1, h2, h3⟩
 ·exact .inl h
 ·refine .inr ⟨r, cap, cur, e, h1, (hz r cur 50 h2 (.inr ⟨rfl, fun ad hA => ?_⟩)).trans h2, h3⟩
  injection e with e _ _
  exact hf ad _ hA e
theorem Apart.snoc {hs : List Hd} {r k : Nat} {A : Option Addr} (h : Apart hs r) (h2 : ∀ ad, A = some ad → ad.block ≠ r) : Apart (hs ++ [(A, k, k)]) r := by
 intro g hg ad hA
 rcases List.mem_append.mp hg with hg | hg
 ·exact h g hg ad hA
 ·have e : g = (A, k, k) := by simpa using hg
  subst e
  exact h2 ad hA
theorem RmS.st {w w1 : World} {g B g15 : Nat} {hs ws : List Hd} {cs : Array Value} (h : RmS w g B hs ws) (hd : w.heap[g15]? = some (.cells cs 25 (0, 0))) (hst : ∀ k, k ≠ g15 → w1.heap[k]? = w.heap[k]?) : RmS w1 g B hs ws := h.moveR fun k cs' t hk ht => hst k (fun e => by subst e; rw [hd] at hk; injection hk with hk; injection hk with _ e; exact ht e.symm)
theorem PL.st {w w1 : World} {g15 r n c : Nat} {xs : List Nat} {cs cl : Array Value} (h : PL w (some ⟨r, 0, none⟩) n c xs) (hk : w.heap[r]? = some (.cells cl 50 (0, 0))) (hd : w.heap[g15]? = some (.cells cs 25 (0, 0))) (hst : ∀ k, k ≠ g15 → w1.heap[k]? = w.heap[k]?) : PL w1 (some ⟨r, 0, none⟩) n c xs := ⟨C_at h.1 (hst r (blk_ne hk hd (by decide))), h.2⟩
end Go.Proofs.Ytodlgdpkadkjjaa.A
end
section
set_option linter.unusedVariables false
set_option linter.unusedSimpArgs false
namespace Go.Proofs.Ytodlgdpkadkjjaa.A
open Go.RowKit Go.Shelf Go.Proofs.YtodlgdpkadkjjaaW.PrintWords Go.Proofs.YtodlgdpkadkjjaaW.PrintLast Go.Proofs.YtodlgdpkadkjjaaW.PrintMore Go.Proofs.Ytodlgdpkadkjjaa.PPyramidLevels
set_option maxHeartbeats 16000000 in
set_option maxRecDepth 100000 in
theorem pyramidSplits (x y : Int) (A : Option Addr) (cap : Nat) (p : List Nat) (u v : Int) (D : Option Addr) (dcap : Nat) (q : List Nat) (w : World) (hC : (nat .u32).C w A p.length p) (hc : p.length ≤ cap) (hx : ∀ i, gt p i < 4294967296) (hD : (nat .u32).C w D q.length q) (hd : q.length ≤ dcap) (hy : ∀ i, gt q i < 4294967296) (hb4 : p.length * 4 ≤ 140737488351232) (hb5 : q.length * 4 ≤ 140737488351232) :
    Calls Try.prog 8 #[.agg #[.int .i64 x, .int .i64 y, .slice A p.length cap], .agg #[.int .i64 u, .int .i64 v, .slice D q.length dcap]] w fun e w' => e = .returned (.bool true) ∧ Below w.heap.size w w' := by
 have hu25 := Try.underlying25
 obtain ⟨n, hn⟩ : ∃ n, p.length = n := ⟨_, rfl⟩
 obtain ⟨m, hm⟩ : ∃ m, q.length = m := ⟨_, rfl⟩
 have HX : Aside0 (PL w A n cap p) := ⟨by rw [← hn]; exact ⟨hC, hc, rfl⟩⟩
 have HYL : Aside0 (PL w D m dcap q) := ⟨by rw [← hm]; exact ⟨hD, hd, rfl⟩⟩
 have HPX := Aside0.mk hx
 have HQX := Aside0.mk hy
 obtain ⟨⟨ax, ay, al, ae⟩, hoa⟩ : ∃ o, redO x y p = o := ⟨_, rfl⟩
 obtain ⟨⟨fx, fy, fl, fe⟩, hof⟩ : ∃ o, finO x y p = o := ⟨_, rfl⟩
 obtain ⟨⟨bx, by_, bl, be⟩, hob⟩ : ∃ o, joiO x y p u v q = o := ⟨_, rfl⟩
 have HOA := Aside0.mk hoa
 have HOF := Aside0.mk hof
 have HOB := Aside0.mk hob
 have HAL : Aside0 (al.length < 4611686018427387904) := ⟨by have := redO_len x y p; rw [hoa] at this; simp only at this; omega⟩
 have HFL : Aside0 (fl.length < 4611686018427387904) := ⟨by have := finO_len x y p; rw [hof] at this; simp only at this; omega⟩
 have HBL : Aside0 (bl.length < 4611686018427387904) := ⟨by have := joiO_len x y p u v q; rw [hob] at this; simp only at this; omega⟩
 have ta : ((ae : Int) != (ae : Int)) = false := by rw [bne_eq_false_iff_eq]
 have tb : ((be : Int) != (be : Int)) = false := by rw [bne_eq_false_iff_eq]
 have Lx_0 := HX
 have Ly_0 := HYL
 rw [hn] at hb4 ⊢
 rw [hm] at hb5 ⊢
 clear hn hm hC hc hx hD hd hy hoa hof hob
 have B_0 : Aside0 (Below w.heap.size w w) := ⟨Below.refl _ _⟩
 go_enter Try.func8, Try.ntmps8
 go_upto_region 5 with (first | ((with_reducible refine gate_dst (N := 23) rfl ?_); refine box_event ?hg (N := 23) ?hd (cs := #[.slice none 0 0, .slice none 0 0, .slice none 0 0, .slice none 0 0, .slice none 0 0, .slice none 0 0, .slice none 0 0, .slice none 0 0]) (t := 37) ?hr ?_; (case hd => rfl); (case hg => rfl); (case hr => first | (go_simp; done) | (go_simp; rfl)); intro gM hg_ w5 hm_ hb_; have B_5 := Aside0.mk (below_step B_4.out hb_); have DX_5 := Aside0.mk (blk_below DX_4.out hb_); have DY_5 := Aside0.mk (blk_below DY_4.out hb_); have Lx_5 := Aside0.mk (Lx_4.out.below hb_); have Ly_5 := Aside0.mk (Ly_4.out.below hb_); have DK_5 := Aside0.mk (blk_below DK_4.out hb_); clear DX_4 DY_4 Lx_4 Ly_4 DK_4; have DM_5 := Aside0.mk (hm_); have HGM := Aside0.mk (show w.heap.size ≤ gM by rw [hg_]; exact B_4.out.size); clear hm_ hb_ hg_) | ((with_reducible refine gate_dst (N := 21) rfl ?_); refine box_event ?hg (N := 21) ?hd (cs := #[.slice none 0 0, .slice none 0 0, .slice none 0 0, .slice none 0 0, .slice none 0 0, .slice none 0 0, .slice none 0 0, .slice none 0 0]) (t := 34) ?hr ?_; (case hd => rfl); (case hg => rfl); (case hr => first | (go_simp; done) | (go_simp; rfl)); intro gK hg_ w4 hm_ hb_; have B_4 := Aside0.mk (below_step B_3.out hb_); have DX_4 := Aside0.mk (blk_below DX_3.out hb_); have DY_4 := Aside0.mk (blk_below DY_3.out hb_); have Lx_4 := Aside0.mk (Lx_3.out.below hb_); have Ly_4 := Aside0.mk (Ly_3.out.below hb_); clear DX_3 DY_3 Lx_3 Ly_3; have DK_4 := Aside0.mk (hm_); have HGW := Aside0.mk (show w.heap.size ≤ gK by rw [hg_]; exact B_3.out.size); clear hm_ hb_ hg_) | (go_at_call 12; refine (known_calls _).mono ?_; rintro e w3 ⟨rfl, hb⟩; have B_3 := Aside0.mk (below_step B_2.out hb); have DX_3 := Aside0.mk (blk_below DX_2.out hb); have DY_3 := Aside0.mk (blk_below DY_2.out hb); have Lx_3 := Aside0.mk (Lx_2.out.below hb); have Ly_3 := Aside0.mk (Ly_2.out.below hb); clear DX_2 DY_2 Lx_2 Ly_2; clear hb) | ((with_reducible refine gate_dst (N := 3) rfl ?_); refine box_event ?hg (N := 3) ?hd (cs := #[.int .i64 u, .int .i64 v, .slice D m dcap]) (t := 25) ?hr ?_; (case hd => rfl); (case hg => rfl); (case hr => first | (go_simp; done) | (go_simp; rfl)); intro gY hg_ w2 hm_ hb_; have B_2 := Aside0.mk (below_step B_1.out hb_); have DX_2 := Aside0.mk (blk_below DX_1.out hb_); have Lx_2 := Aside0.mk (Lx_1.out.below hb_); have Ly_2 := Aside0.mk (Ly_1.out.below hb_); clear DX_1 Lx_1 Ly_1; have DY_2 := Aside0.mk (hm_); clear hm_ hb_ hg_) | ((with_reducible refine gate_dst (N := 2) rfl ?_); refine box_event ?hg (N := 2) ?hd (cs := #[.int .i64 x, .int .i64 y, .slice A n cap]) (t := 25) ?hr ?_; (case hd => rfl); (case hg => rfl); (case hr => first | (go_simp; done) | (go_simp; rfl)); intro gX hg_ w1 hm_ hb_; have B_1 := Aside0.mk (below_step B_0.out hb_); have Lx_1 := Aside0.mk (Lx_0.out.below hb_); have Ly_1 := Aside0.mk (Ly_0.out.below hb_); clear Lx_0 Ly_0; have DX_1 := Aside0.mk (hm_); clear hm_ hb_ hg_))
 have DX_5 := Aside0.mk (blk_drew DX_5.out)
 have DY_5 := Aside0.mk (blk_drew DY_5.out)
 have DK_5 := Aside0.mk (blk_drew DK_5.out)
 have DM_5 := Aside0.mk (blk_drew DM_5.out)
 have Lx_5 := Aside0.mk (Lx_5.out.below (below_drew (Below.refl _ w5)))
 have Ly_5 := Aside0.mk (Ly_5.out.below (below_drew (Below.refl _ w5)))
 have B_5 := Aside0.mk (below_drew B_5.out)
 have HMX := Aside0.mk (blk_drew DM_5.out)
 have BQ := B_5
 have QX := DX_5
 have QY := DY_5
 have QK := DK_5
 have QLx := Lx_5
 have QLy := Ly_5
 have HXT : Aside0 (∀ w', But w5.drew.heap.size gM w5.drew w' → w'.heap[gX]? = some (.cells #[.int .i64 x, .int .i64 y, .slice A n cap] 25 (0, 0))) := ⟨fun w' T => T.at_ DX_5.out (blk_lt DX_5.out) (blk_ne DX_5.out DM_5.out (by decide))⟩
 have HYT : Aside0 (∀ w', But w5.drew.heap.size gM w5.drew w' → w'.heap[gY]? = some (.cells #[.int .i64 u, .int .i64 v, .slice D m dcap] 25 (0, 0))) := ⟨fun w' T => T.at_ DY_5.out (blk_lt DY_5.out) (blk_ne DY_5.out DM_5.out (by decide))⟩
 have HKT : Aside0 (∀ w', But w5.drew.heap.size gM w5.drew w' → w'.heap[gK]? = some (.cells #[.slice none 0 0, .slice none 0 0, .slice none 0 0, .slice none 0 0, .slice none 0 0, .slice none 0 0, .slice none 0 0, .slice none 0 0] 34 (0, 0))) := ⟨fun w' T => T.at_ DK_5.out (blk_lt DK_5.out) (blk_ne DK_5.out DM_5.out (by decide))⟩
 have HLX : Aside0 (∀ w', But w5.drew.heap.size gM w5.drew w' → PL w' A n cap p) := ⟨fun w' T => T.PL Lx_5.out (fun ad hA hp => by have := C_lt HX.out.1 ad hA hp; have := HGM.out; omega)⟩
 have HLY : Aside0 (∀ w', But w5.drew.heap.size gM w5.drew w' → PL w' D m dcap q) := ⟨fun w' T => T.PL Ly_5.out (fun ad hA hp => by have := C_lt HYL.out.1 ad hA hp; have := HGM.out; omega)⟩
 have HML : Aside0 (gM < w5.drew.heap.size) := ⟨blk_lt DM_5.out⟩
 have HKL : Aside0 (gK < w5.drew.heap.size) := ⟨blk_lt DK_5.out⟩
 have RM_ : Aside0 (RmS w5.drew gM w5.drew.heap.size [] []) := ⟨RmS.new DM_5.out⟩
 have T_ : Aside0 (But w5.drew.heap.size gM w5.drew w5.drew) := ⟨.refl _ _ _⟩
 clear DX_5 DY_5 DK_5 DM_5 Lx_5 Ly_5 B_5
 refine start_ (n := 10) (S := fun w' => w'.cell? ⟨gX, 0, none⟩ = some (.int .i64 x) ∧ w'.cell? ⟨gX, 1, none⟩ = some (.int .i64 y) ∧ w'.cell? ⟨gX, 2, none⟩ = some (.slice A n cap) ∧ w'.cell? ⟨gY, 0, none⟩ = some (.int .i64 u) ∧ w'.cell? ⟨gY, 1, none⟩ = some (.int .i64 v) ∧ w'.cell? ⟨gY, 2, none⟩ = some (.slice D m dcap)) (ds := [9]) #[ff_,ff_,ff_,ff_,ff_,ff_,ff_,ff_,ff_,ff_] (by kernel_rfl) rfl rfl ⟨(blk_cell (HXT.out _ T_.out) 0).trans rfl, (blk_cell (HXT.out _ T_.out) 1).trans rfl, (blk_cell (HXT.out _ T_.out) 2).trans rfl, (blk_cell (HYT.out _ T_.out) 0).trans rfl, (blk_cell (HYT.out _ T_.out) 1).trans rfl, (blk_cell (HYT.out _ T_.out) 2).trans rfl⟩ (fun hHeld => ?_)
 generalize w5.drew = w5x at *
 refine pure_ (i := 0) (N := some 24) (v := ?_) (a' := ?_) #[tt_,ff_,ff_,ff_,ff_,ff_,ff_,ff_,ff_,ff_] rfl rfl (by kernel_rfl) (fun _ _ _ h => h) (Or.inl ⟨by rfl, ?_⟩) ?_ ?_
 rotate_left
 ·intro w'
  go_simp
  with_reducible rfl
 rotate_left
 ·simp only [Act.put, List.setIfInBounds_toArray, List.set_cons_zero, List.set_cons_succ, i64_w, i32_w]
  rfl
 refine pure_ (i := 3) (N := some 27) (v := ?_) (a' := ?_) #[tt_,ff_,ff_,tt_,ff_,ff_,ff_,ff_,ff_,ff_] rfl rfl (by kernel_rfl) (fun _ _ _ h => h) (Or.inl ⟨by rfl, ?_⟩) ?_ ?_
 rotate_left
 ·intro w'
  go_simp
  with_reducible rfl
 rotate_left
 ·simp only [Act.put, List.setIfInBounds_toArray, List.set_cons_zero, List.set_cons_succ, i64_w, i32_w]
  rfl
 refine take_ (i := 1) (N := some 25) (v := ?_) (a' := ?_) #[tt_,tt_,ff_,tt_,ff_,ff_,ff_,ff_,ff_,ff_] rfl rfl (by kernel_rfl) (fun _ _ _ h => h) (Or.inl ⟨by rfl, ?_⟩) hHeld ?_ ?_
 rotate_left
 ·rintro w' ⟨s0, s1, s2, s3, s4, s5⟩
  go_simp
  with_reducible rfl
 rotate_left
 ·simp only [Act.put, List.setIfInBounds_toArray, List.set_cons_zero, List.set_cons_succ, i64_w, i32_w]
  rfl
 refine take_ (i := 4) (N := some 28) (v := ?_) (a' := ?_) #[tt_,tt_,ff_,tt_,tt_,ff_,ff_,ff_,ff_,ff_] rfl rfl (by kernel_rfl) (fun _ _ _ h => h) (Or.inl ⟨by rfl, ?_⟩) hHeld ?_ ?_
 rotate_left
 ·rintro w' ⟨s0, s1, s2, s3, s4, s5⟩
  go_simp
  with_reducible rfl
 rotate_left
 ·simp only [Act.put, List.setIfInBounds_toArray, List.set_cons_zero, List.set_cons_succ, i64_w, i32_w]
  rfl
 refine join_ (σ := Nat × Nat × Array Value × Nat × Nat × Array Value × Nat × Nat × List Hd × List Hd) 2 #[tt_,tt_,tt_,tt_,tt_,tt_,tt_,tt_,ff_,ff_] (fun q_ => [(26, .agg #[.int .i64 x, .int .i64 y, .slice (some ⟨q_.1, 0, none⟩) n q_.2.1]), (29, .agg #[.int .i64 u, .int .i64 v, .slice (some ⟨q_.2.2.2.1, 0, none⟩) m q_.2.2.2.2.1]), (7, .pointer (some ⟨q_.2.2.2.2.2.2.1, 0, none⟩)), (8, .pointer (some ⟨q_.2.2.2.2.2.2.2.1, 0, none⟩))]) (fun q_ w' => PL w' (some ⟨q_.1, 0, none⟩) n q_.2.1 p ∧ w'.heap[q_.1]? = some (.cells q_.2.2.1 50 (0, 0)) ∧ PL w' (some ⟨q_.2.2.2.1, 0, none⟩) m q_.2.2.2.2.1 q ∧ w'.heap[q_.2.2.2.1]? = some (.cells q_.2.2.2.2.2.1 50 (0, 0)) ∧ w'.heap[q_.2.2.2.2.2.2.1]? = some (.cells #[.int .i64 0, .int .i64 0, .slice none 0 0] 25 (0, 0)) ∧ w'.heap[q_.2.2.2.2.2.2.2.1]? = some (.cells #[.int .i64 0, .int .i64 0, .slice none 0 0] 25 (0, 0)) ∧ (w5x.heap.size ≤ q_.2.2.2.2.2.2.1 ∧ w5x.heap.size ≤ q_.2.2.2.2.2.2.2.1 ∧ q_.2.2.2.2.2.2.1 ≠ q_.2.2.2.2.2.2.2.1 ∧ w5x.heap.size ≤ q_.1 ∧ w5x.heap.size ≤ q_.2.2.2.1) ∧ RmS w' gM w5x.heap.size q_.2.2.2.2.2.2.2.2.1 q_.2.2.2.2.2.2.2.2.2 ∧ But w5x.heap.size gM w5x w') ?_ ?_
 rotate_left
 ·intro hCont
  refine three_ (i := 2) (j := 6) (k := 7) (Ni := some 26) (Nj := some 7) (Nk := some 8) #[tt_,tt_,tt_,tt_,tt_,ff_,ff_,ff_,ff_,ff_] #[tt_,tt_,ff_,tt_,tt_,ff_,tt_,ff_,ff_,ff_] #[tt_,tt_,ff_,tt_,tt_,ff_,ff_,tt_,ff_,ff_] rfl rfl rfl rfl rfl rfl (by kernel_rfl) (by decide) (by decide) (by decide) (fun K hK => ?_) (fun K hK => ?_) (fun K hK => ?_)
  ·skip
   refine goes_ Try.func13 (by kernel_rfl) rfl #[.pointer (some ⟨gM, 0, none⟩), .agg #[.int .i64 x, .int .i64 y, .slice A n cap]] (by rfl) rfl rfl (by (try simp only [List.map_toArray, List.map_cons, List.map_nil]); rfl) ?_
   refine (roomPlane gM w5x.heap.size x y A n cap p [] [] _ RM_.out HML.out T_.out.size (HLX.out _ T_.out) hb4 (Nat.zero_le _)).mono ?_
   rintro e w_2 ⟨r1, c1, hs5, ws5, rfl, hL, hr, hK, hl, hT, hQ, cl1, hc⟩
   refine ⟨_, rfl, ?_⟩
   have T_2 := Aside0.mk (T_.out.trans hT)
   have RM_2 := Aside0.mk (hK)
   have L1_2 := Aside0.mk (hL)
   have K1_2 := Aside0.mk (hc)
   have GR1 := Aside0.mk (Nat.le_trans T_.out.size hr)
   have HL5 := Aside0.mk (hl)
   clear hL hr hK hl hT hQ hc
   refine hK.out _ _ ⟨(blk_cell (HXT.out _ T_2.out) 0).trans rfl, (blk_cell (HXT.out _ T_2.out) 1).trans rfl, (blk_cell (HXT.out _ T_2.out) 2).trans rfl, (blk_cell (HYT.out _ T_2.out) 0).trans rfl, (blk_cell (HYT.out _ T_2.out) 1).trans rfl, (blk_cell (HYT.out _ T_2.out) 2).trans rfl⟩ (fun hHeld => ?_)
   clear hK K
   refine norm_ (a' := ?_) ?_ ?_
   rotate_left
   ·show Act.put _ (some 26) _ = _
    simp only [Act.put, List.setIfInBounds_toArray, List.set_cons_zero, List.set_cons_succ, i64_w, i32_w]
    rfl
   refine three_ (i := 5) (j := 6) (k := 7) (Ni := some 29) (Nj := some 7) (Nk := some 8) #[tt_,tt_,tt_,tt_,tt_,tt_,ff_,ff_,ff_,ff_] #[tt_,tt_,tt_,tt_,tt_,ff_,tt_,ff_,ff_,ff_] #[tt_,tt_,tt_,tt_,tt_,ff_,ff_,tt_,ff_,ff_] rfl rfl rfl rfl rfl rfl (by kernel_rfl) (by decide) (by decide) (by decide) (fun K hK => ?_) (fun K hK => ?_) (fun K hK => ?_)
   ·skip
    refine goes_ Try.func13 (by kernel_rfl) rfl #[.pointer (some ⟨gM, 0, none⟩), .agg #[.int .i64 u, .int .i64 v, .slice D m dcap]] (by rfl) rfl rfl (by (try simp only [List.map_toArray, List.map_cons, List.map_nil]); rfl) ?_
    refine (roomPlane gM w5x.heap.size u v D m dcap q hs5 ws5 _ RM_2.out HML.out T_2.out.size (HLY.out _ T_2.out) hb5 (by rw [HL5.out]; decide)).mono ?_
    rintro e w_2_5 ⟨r2, c2, hs6, ws6, rfl, hL, hr, hK, hl, hT, hQ, cl2, hc⟩
    refine ⟨_, rfl, ?_⟩
    have T_2_5 := Aside0.mk (T_2.out.trans hT)
    have RM_2_5 := Aside0.mk (hK)
    have L2_2_5 := Aside0.mk (hL)
    have K2_2_5 := Aside0.mk (hc)
    have GR2 := Aside0.mk (Nat.le_trans T_2.out.size hr)
    have L1_2_5 := Aside0.mk (show PL w_2_5 (some ⟨r1, 0, none⟩) n c1 p from ⟨C_at L1_2.out.1 (hQ r1 _ _ K1_2.out (.inl rfl)), L1_2.out.2⟩)
    have K1_2_5 := Aside0.mk ((hQ r1 _ _ K1_2.out (.inl rfl)).trans K1_2.out)
    clear hL hr hK hl hT hQ hc
    refine hK.out _ _ ⟨(blk_cell (HXT.out _ T_2_5.out) 0).trans rfl, (blk_cell (HXT.out _ T_2_5.out) 1).trans rfl, (blk_cell (HXT.out _ T_2_5.out) 2).trans rfl, (blk_cell (HYT.out _ T_2_5.out) 0).trans rfl, (blk_cell (HYT.out _ T_2_5.out) 1).trans rfl, (blk_cell (HYT.out _ T_2_5.out) 2).trans rfl⟩ (fun hHeld => ?_)
    clear hK K
    refine norm_ (a' := ?_) ?_ ?_
    rotate_left
    ·show Act.put _ (some 29) _ = _
     simp only [Act.put, List.setIfInBounds_toArray, List.set_cons_zero, List.set_cons_succ, i64_w, i32_w]
     rfl
    refine two_ (i := 6) (j := 7) (Ni := some 7) (Nj := some 8) #[tt_,tt_,tt_,tt_,tt_,tt_,tt_,ff_,ff_,ff_] #[tt_,tt_,tt_,tt_,tt_,tt_,ff_,tt_,ff_,ff_] rfl rfl rfl rfl (by kernel_rfl) (by decide) (by decide) (fun K hK => ?_) (fun K hK => ?_)
    ·skip
     refine alloc_step (cs := #[.int .i64 0, .int .i64 0, .slice none 0 0]) (t := 25) (by rfl) rfl (by first | (go_simp; done) | (go_simp; rfl)) ?_
     intro g6 hg17
     have T_2_5_6 := Aside0.mk (But.step T_2_5.out (below_alloc (Below.refl _ w_2_5) (.cells #[.int .i64 0, .int .i64 0, .slice none 0 0] 25 (0, 0))))
     have RM_2_5_6 := Aside0.mk (RM_2_5.out.below (below_alloc (Below.refl _ w_2_5) (.cells #[.int .i64 0, .int .i64 0, .slice none 0 0] 25 (0, 0))))
     have Z6_2_5_6 := Aside0.mk (blk_new w_2_5 (.cells #[.int .i64 0, .int .i64 0, .slice none 0 0] 25 (0, 0)))
     rw [← hg17] at Z6_2_5_6
     have GE6 := Aside0.mk (show w5x.heap.size ≤ g6 by rw [hg17]; exact T_2_5.out.size)
     have L1_2_5_6 := Aside0.mk (L1_2_5.out.below (below_alloc (Below.refl _ w_2_5) (.cells #[.int .i64 0, .int .i64 0, .slice none 0 0] 25 (0, 0))))
     have K1_2_5_6 := Aside0.mk (blk_below K1_2_5.out (below_alloc (Below.refl _ w_2_5) (.cells #[.int .i64 0, .int .i64 0, .slice none 0 0] 25 (0, 0))))
     have L2_2_5_6 := Aside0.mk (L2_2_5.out.below (below_alloc (Below.refl _ w_2_5) (.cells #[.int .i64 0, .int .i64 0, .slice none 0 0] 25 (0, 0))))
     have K2_2_5_6 := Aside0.mk (blk_below K2_2_5.out (below_alloc (Below.refl _ w_2_5) (.cells #[.int .i64 0, .int .i64 0, .slice none 0 0] 25 (0, 0))))
     clear hg17
     generalize w_2_5.alloc (.cells #[.int .i64 0, .int .i64 0, .slice none 0 0] 25 (0, 0)) = w_2_5_6 at *
     refine hK.out _ _ ⟨(blk_cell (HXT.out _ T_2_5_6.out) 0).trans rfl, (blk_cell (HXT.out _ T_2_5_6.out) 1).trans rfl, (blk_cell (HXT.out _ T_2_5_6.out) 2).trans rfl, (blk_cell (HYT.out _ T_2_5_6.out) 0).trans rfl, (blk_cell (HYT.out _ T_2_5_6.out) 1).trans rfl, (blk_cell (HYT.out _ T_2_5_6.out) 2).trans rfl⟩ (fun hHeld => ?_)
     clear hK K
     refine norm_ (a' := ?_) ?_ ?_
     rotate_left
     ·show Act.put _ (some 7) _ = _
      simp only [Act.put, List.setIfInBounds_toArray, List.set_cons_zero, List.set_cons_succ, i64_w, i32_w]
      rfl
     refine one_ (i := 7) (N := some 8) #[tt_,tt_,tt_,tt_,tt_,tt_,tt_,tt_,ff_,ff_] rfl rfl (by kernel_rfl) (by decide) (fun K hK => ?_)
     refine alloc_step (cs := #[.int .i64 0, .int .i64 0, .slice none 0 0]) (t := 25) (by rfl) rfl (by first | (go_simp; done) | (go_simp; rfl)) ?_
     intro g7 hg17
     have T_2_5_6_7 := Aside0.mk (But.step T_2_5_6.out (below_alloc (Below.refl _ w_2_5_6) (.cells #[.int .i64 0, .int .i64 0, .slice none 0 0] 25 (0, 0))))
     have RM_2_5_6_7 := Aside0.mk (RM_2_5_6.out.below (below_alloc (Below.refl _ w_2_5_6) (.cells #[.int .i64 0, .int .i64 0, .slice none 0 0] 25 (0, 0))))
     have Z7_2_5_6_7 := Aside0.mk (blk_new w_2_5_6 (.cells #[.int .i64 0, .int .i64 0, .slice none 0 0] 25 (0, 0)))
     rw [← hg17] at Z7_2_5_6_7
     have GE7 := Aside0.mk (show w5x.heap.size ≤ g7 by rw [hg17]; exact T_2_5_6.out.size)
     have Z6_2_5_6_7 := Aside0.mk (blk_below Z6_2_5_6.out (below_alloc (Below.refl _ w_2_5_6) (.cells #[.int .i64 0, .int .i64 0, .slice none 0 0] 25 (0, 0))))
     have NE67 := Aside0.mk (show g6 ≠ g7 by have := blk_lt Z6_2_5_6.out; omega)
     have L1_2_5_6_7 := Aside0.mk (L1_2_5_6.out.below (below_alloc (Below.refl _ w_2_5_6) (.cells #[.int .i64 0, .int .i64 0, .slice none 0 0] 25 (0, 0))))
     have K1_2_5_6_7 := Aside0.mk (blk_below K1_2_5_6.out (below_alloc (Below.refl _ w_2_5_6) (.cells #[.int .i64 0, .int .i64 0, .slice none 0 0] 25 (0, 0))))
     have L2_2_5_6_7 := Aside0.mk (L2_2_5_6.out.below (below_alloc (Below.refl _ w_2_5_6) (.cells #[.int .i64 0, .int .i64 0, .slice none 0 0] 25 (0, 0))))
     have K2_2_5_6_7 := Aside0.mk (blk_below K2_2_5_6.out (below_alloc (Below.refl _ w_2_5_6) (.cells #[.int .i64 0, .int .i64 0, .slice none 0 0] 25 (0, 0))))
     clear hg17
     generalize w_2_5_6.alloc (.cells #[.int .i64 0, .int .i64 0, .slice none 0 0] 25 (0, 0)) = w_2_5_6_7 at *
     refine hK.out _ _ ⟨(blk_cell (HXT.out _ T_2_5_6_7.out) 0).trans rfl, (blk_cell (HXT.out _ T_2_5_6_7.out) 1).trans rfl, (blk_cell (HXT.out _ T_2_5_6_7.out) 2).trans rfl, (blk_cell (HYT.out _ T_2_5_6_7.out) 0).trans rfl, (blk_cell (HYT.out _ T_2_5_6_7.out) 1).trans rfl, (blk_cell (HYT.out _ T_2_5_6_7.out) 2).trans rfl⟩ (fun hHeld => ?_)
     clear hK K
     refine norm_ (a' := ?_) ?_ ?_
     rotate_left
     ·show Act.put _ (some 8) _ = _
      simp only [Act.put, List.setIfInBounds_toArray, List.set_cons_zero, List.set_cons_succ, i64_w, i32_w]
      rfl
     exact norm_ (by rfl) (hCont (r1, c1, cl1, r2, c2, cl2, g6, g7, hs6, ws6) _ ⟨L1_2_5_6_7.out, K1_2_5_6_7.out, L2_2_5_6_7.out, K2_2_5_6_7.out, Z6_2_5_6_7.out, Z7_2_5_6_7.out, ⟨GE6.out, GE7.out, NE67.out, GR1.out, GR2.out⟩, RM_2_5_6_7.out, T_2_5_6_7.out⟩)
    ·skip
     refine alloc_step (cs := #[.int .i64 0, .int .i64 0, .slice none 0 0]) (t := 25) (by rfl) rfl (by first | (go_simp; done) | (go_simp; rfl)) ?_
     intro g7 hg17
     have T_2_5_7 := Aside0.mk (But.step T_2_5.out (below_alloc (Below.refl _ w_2_5) (.cells #[.int .i64 0, .int .i64 0, .slice none 0 0] 25 (0, 0))))
     have RM_2_5_7 := Aside0.mk (RM_2_5.out.below (below_alloc (Below.refl _ w_2_5) (.cells #[.int .i64 0, .int .i64 0, .slice none 0 0] 25 (0, 0))))
     have Z7_2_5_7 := Aside0.mk (blk_new w_2_5 (.cells #[.int .i64 0, .int .i64 0, .slice none 0 0] 25 (0, 0)))
     rw [← hg17] at Z7_2_5_7
     have GE7 := Aside0.mk (show w5x.heap.size ≤ g7 by rw [hg17]; exact T_2_5.out.size)
     have L1_2_5_7 := Aside0.mk (L1_2_5.out.below (below_alloc (Below.refl _ w_2_5) (.cells #[.int .i64 0, .int .i64 0, .slice none 0 0] 25 (0, 0))))
     have K1_2_5_7 := Aside0.mk (blk_below K1_2_5.out (below_alloc (Below.refl _ w_2_5) (.cells #[.int .i64 0, .int .i64 0, .slice none 0 0] 25 (0, 0))))
     have L2_2_5_7 := Aside0.mk (L2_2_5.out.below (below_alloc (Below.refl _ w_2_5) (.cells #[.int .i64 0, .int .i64 0, .slice none 0 0] 25 (0, 0))))
     have K2_2_5_7 := Aside0.mk (blk_below K2_2_5.out (below_alloc (Below.refl _ w_2_5) (.cells #[.int .i64 0, .int .i64 0, .slice none 0 0] 25 (0, 0))))
     clear hg17
     generalize w_2_5.alloc (.cells #[.int .i64 0, .int .i64 0, .slice none 0 0] 25 (0, 0)) = w_2_5_7 at *
     refine hK.out _ _ ⟨(blk_cell (HXT.out _ T_2_5_7.out) 0).trans rfl, (blk_cell (HXT.out _ T_2_5_7.out) 1).trans rfl, (blk_cell (HXT.out _ T_2_5_7.out) 2).trans rfl, (blk_cell (HYT.out _ T_2_5_7.out) 0).trans rfl, (blk_cell (HYT.out _ T_2_5_7.out) 1).trans rfl, (blk_cell (HYT.out _ T_2_5_7.out) 2).trans rfl⟩ (fun hHeld => ?_)
     clear hK K
     refine norm_ (a' := ?_) ?_ ?_
     rotate_left
     ·show Act.put _ (some 8) _ = _
      simp only [Act.put, List.setIfInBounds_toArray, List.set_cons_zero, List.set_cons_succ, i64_w, i32_w]
      rfl
     refine one_ (i := 6) (N := some 7) #[tt_,tt_,tt_,tt_,tt_,tt_,tt_,tt_,ff_,ff_] rfl rfl (by kernel_rfl) (by decide) (fun K hK => ?_)
     refine alloc_step (cs := #[.int .i64 0, .int .i64 0, .slice none 0 0]) (t := 25) (by rfl) rfl (by first | (go_simp; done) | (go_simp; rfl)) ?_
     intro g6 hg17
     have T_2_5_7_6 := Aside0.mk (But.step T_2_5_7.out (below_alloc (Below.refl _ w_2_5_7) (.cells #[.int .i64 0, .int .i64 0, .slice none 0 0] 25 (0, 0))))
     have RM_2_5_7_6 := Aside0.mk (RM_2_5_7.out.below (below_alloc (Below.refl _ w_2_5_7) (.cells #[.int .i64 0, .int .i64 0, .slice none 0 0] 25 (0, 0))))
     have Z6_2_5_7_6 := Aside0.mk (blk_new w_2_5_7 (.cells #[.int .i64 0, .int .i64 0, .slice none 0 0] 25 (0, 0)))
     rw [← hg17] at Z6_2_5_7_6
     have GE6 := Aside0.mk (show w5x.heap.size ≤ g6 by rw [hg17]; exact T_2_5_7.out.size)
     have Z7_2_5_7_6 := Aside0.mk (blk_below Z7_2_5_7.out (below_alloc (Below.refl _ w_2_5_7) (.cells #[.int .i64 0, .int .i64 0, .slice none 0 0] 25 (0, 0))))
     have NE67 := Aside0.mk (show g6 ≠ g7 by have := blk_lt Z7_2_5_7.out; omega)
     have L1_2_5_7_6 := Aside0.mk (L1_2_5_7.out.below (below_alloc (Below.refl _ w_2_5_7) (.cells #[.int .i64 0, .int .i64 0, .slice none 0 0] 25 (0, 0))))
     have K1_2_5_7_6 := Aside0.mk (blk_below K1_2_5_7.out (below_alloc (Below.refl _ w_2_5_7) (.cells #[.int .i64 0, .int .i64 0, .slice none 0 0] 25 (0, 0))))
     have L2_2_5_7_6 := Aside0.mk (L2_2_5_7.out.below (below_alloc (Below.refl _ w_2_5_7) (.cells #[.int .i64 0, .int .i64 0, .slice none 0 0] 25 (0, 0))))
     have K2_2_5_7_6 := Aside0.mk (blk_below K2_2_5_7.out (below_alloc (Below.refl _ w_2_5_7) (.cells #[.int .i64 0, .int .i64 0, .slice none 0 0] 25 (0, 0))))
     clear hg17
     generalize w_2_5_7.alloc (.cells #[.int .i64 0, .int .i64 0, .slice none 0 0] 25 (0, 0)) = w_2_5_7_6 at *
     refine hK.out _ _ ⟨(blk_cell (HXT.out _ T_2_5_7_6.out) 0).trans rfl, (blk_cell (HXT.out _ T_2_5_7_6.out) 1).trans rfl, (blk_cell (HXT.out _ T_2_5_7_6.out) 2).trans rfl, (blk_cell (HYT.out _ T_2_5_7_6.out) 0).trans rfl, (blk_cell (HYT.out _ T_2_5_7_6.out) 1).trans rfl, (blk_cell (HYT.out _ T_2_5_7_6.out) 2).trans rfl⟩ (fun hHeld => ?_)
     clear hK K
     refine norm_ (a' := ?_) ?_ ?_
     rotate_left
     ·show Act.put _ (some 7) _ = _
      simp only [Act.put, List.setIfInBounds_toArray, List.set_cons_zero, List.set_cons_succ, i64_w, i32_w]
      rfl
     exact norm_ (by rfl) (hCont (r1, c1, cl1, r2, c2, cl2, g6, g7, hs6, ws6) _ ⟨L1_2_5_7_6.out, K1_2_5_7_6.out, L2_2_5_7_6.out, K2_2_5_7_6.out, Z6_2_5_7_6.out, Z7_2_5_7_6.out, ⟨GE6.out, GE7.out, NE67.out, GR1.out, GR2.out⟩, RM_2_5_7_6.out, T_2_5_7_6.out⟩)
   ·skip
    refine alloc_step (cs := #[.int .i64 0, .int .i64 0, .slice none 0 0]) (t := 25) (by rfl) rfl (by first | (go_simp; done) | (go_simp; rfl)) ?_
    intro g6 hg17
    have T_2_6 := Aside0.mk (But.step T_2.out (below_alloc (Below.refl _ w_2) (.cells #[.int .i64 0, .int .i64 0, .slice none 0 0] 25 (0, 0))))
    have RM_2_6 := Aside0.mk (RM_2.out.below (below_alloc (Below.refl _ w_2) (.cells #[.int .i64 0, .int .i64 0, .slice none 0 0] 25 (0, 0))))
    have Z6_2_6 := Aside0.mk (blk_new w_2 (.cells #[.int .i64 0, .int .i64 0, .slice none 0 0] 25 (0, 0)))
    rw [← hg17] at Z6_2_6
    have GE6 := Aside0.mk (show w5x.heap.size ≤ g6 by rw [hg17]; exact T_2.out.size)
    have L1_2_6 := Aside0.mk (L1_2.out.below (below_alloc (Below.refl _ w_2) (.cells #[.int .i64 0, .int .i64 0, .slice none 0 0] 25 (0, 0))))
    have K1_2_6 := Aside0.mk (blk_below K1_2.out (below_alloc (Below.refl _ w_2) (.cells #[.int .i64 0, .int .i64 0, .slice none 0 0] 25 (0, 0))))
    clear hg17
    generalize w_2.alloc (.cells #[.int .i64 0, .int .i64 0, .slice none 0 0] 25 (0, 0)) = w_2_6 at *
    refine hK.out _ _ ⟨(blk_cell (HXT.out _ T_2_6.out) 0).trans rfl, (blk_cell (HXT.out _ T_2_6.out) 1).trans rfl, (blk_cell (HXT.out _ T_2_6.out) 2).trans rfl, (blk_cell (HYT.out _ T_2_6.out) 0).trans rfl, (blk_cell (HYT.out _ T_2_6.out) 1).trans rfl, (blk_cell (HYT.out _ T_2_6.out) 2).trans rfl⟩ (fun hHeld => ?_)
    clear hK K
    refine norm_ (a' := ?_) ?_ ?_
    rotate_left
    ·show Act.put _ (some 7) _ = _
     simp only [Act.put, List.setIfInBounds_toArray, List.set_cons_zero, List.set_cons_succ, i64_w, i32_w]
     rfl
    refine two_ (i := 5) (j := 7) (Ni := some 29) (Nj := some 8) #[tt_,tt_,tt_,tt_,tt_,tt_,tt_,ff_,ff_,ff_] #[tt_,tt_,tt_,tt_,tt_,ff_,tt_,tt_,ff_,ff_] rfl rfl rfl rfl (by kernel_rfl) (by decide) (by decide) (fun K hK => ?_) (fun K hK => ?_)
    ·skip
     refine goes_ Try.func13 (by kernel_rfl) rfl #[.pointer (some ⟨gM, 0, none⟩), .agg #[.int .i64 u, .int .i64 v, .slice D m dcap]] (by rfl) rfl rfl (by (try simp only [List.map_toArray, List.map_cons, List.map_nil]); rfl) ?_
     refine (roomPlane gM w5x.heap.size u v D m dcap q hs5 ws5 _ RM_2_6.out HML.out T_2_6.out.size (HLY.out _ T_2_6.out) hb5 (by rw [HL5.out]; decide)).mono ?_
     rintro e w_2_6_5 ⟨r2, c2, hs6, ws6, rfl, hL, hr, hK, hl, hT, hQ, cl2, hc⟩
     refine ⟨_, rfl, ?_⟩
     have T_2_6_5 := Aside0.mk (T_2_6.out.trans hT)
     have RM_2_6_5 := Aside0.mk (hK)
     have L2_2_6_5 := Aside0.mk (hL)
     have K2_2_6_5 := Aside0.mk (hc)
     have GR2 := Aside0.mk (Nat.le_trans T_2_6.out.size hr)
     have L1_2_6_5 := Aside0.mk (show PL w_2_6_5 (some ⟨r1, 0, none⟩) n c1 p from ⟨C_at L1_2_6.out.1 (hQ r1 _ _ K1_2_6.out (.inl rfl)), L1_2_6.out.2⟩)
     have K1_2_6_5 := Aside0.mk ((hQ r1 _ _ K1_2_6.out (.inl rfl)).trans K1_2_6.out)
     have Z6_2_6_5 := Aside0.mk ((hQ g6 _ _ Z6_2_6.out (.inr rfl)).trans Z6_2_6.out)
     clear hL hr hK hl hT hQ hc
     refine hK.out _ _ ⟨(blk_cell (HXT.out _ T_2_6_5.out) 0).trans rfl, (blk_cell (HXT.out _ T_2_6_5.out) 1).trans rfl, (blk_cell (HXT.out _ T_2_6_5.out) 2).trans rfl, (blk_cell (HYT.out _ T_2_6_5.out) 0).trans rfl, (blk_cell (HYT.out _ T_2_6_5.out) 1).trans rfl, (blk_cell (HYT.out _ T_2_6_5.out) 2).trans rfl⟩ (fun hHeld => ?_)
     clear hK K
     refine norm_ (a' := ?_) ?_ ?_
     rotate_left
     ·show Act.put _ (some 29) _ = _
      simp only [Act.put, List.setIfInBounds_toArray, List.set_cons_zero, List.set_cons_succ, i64_w, i32_w]
      rfl
     refine one_ (i := 7) (N := some 8) #[tt_,tt_,tt_,tt_,tt_,tt_,tt_,tt_,ff_,ff_] rfl rfl (by kernel_rfl) (by decide) (fun K hK => ?_)
     refine alloc_step (cs := #[.int .i64 0, .int .i64 0, .slice none 0 0]) (t := 25) (by rfl) rfl (by first | (go_simp; done) | (go_simp; rfl)) ?_
     intro g7 hg17
     have T_2_6_5_7 := Aside0.mk (But.step T_2_6_5.out (below_alloc (Below.refl _ w_2_6_5) (.cells #[.int .i64 0, .int .i64 0, .slice none 0 0] 25 (0, 0))))
     have RM_2_6_5_7 := Aside0.mk (RM_2_6_5.out.below (below_alloc (Below.refl _ w_2_6_5) (.cells #[.int .i64 0, .int .i64 0, .slice none 0 0] 25 (0, 0))))
     have Z7_2_6_5_7 := Aside0.mk (blk_new w_2_6_5 (.cells #[.int .i64 0, .int .i64 0, .slice none 0 0] 25 (0, 0)))
     rw [← hg17] at Z7_2_6_5_7
     have GE7 := Aside0.mk (show w5x.heap.size ≤ g7 by rw [hg17]; exact T_2_6_5.out.size)
     have Z6_2_6_5_7 := Aside0.mk (blk_below Z6_2_6_5.out (below_alloc (Below.refl _ w_2_6_5) (.cells #[.int .i64 0, .int .i64 0, .slice none 0 0] 25 (0, 0))))
     have NE67 := Aside0.mk (show g6 ≠ g7 by have := blk_lt Z6_2_6_5.out; omega)
     have L1_2_6_5_7 := Aside0.mk (L1_2_6_5.out.below (below_alloc (Below.refl _ w_2_6_5) (.cells #[.int .i64 0, .int .i64 0, .slice none 0 0] 25 (0, 0))))
     have K1_2_6_5_7 := Aside0.mk (blk_below K1_2_6_5.out (below_alloc (Below.refl _ w_2_6_5) (.cells #[.int .i64 0, .int .i64 0, .slice none 0 0] 25 (0, 0))))
     have L2_2_6_5_7 := Aside0.mk (L2_2_6_5.out.below (below_alloc (Below.refl _ w_2_6_5) (.cells #[.int .i64 0, .int .i64 0, .slice none 0 0] 25 (0, 0))))
     have K2_2_6_5_7 := Aside0.mk (blk_below K2_2_6_5.out (below_alloc (Below.refl _ w_2_6_5) (.cells #[.int .i64 0, .int .i64 0, .slice none 0 0] 25 (0, 0))))
     clear hg17
     generalize w_2_6_5.alloc (.cells #[.int .i64 0, .int .i64 0, .slice none 0 0] 25 (0, 0)) = w_2_6_5_7 at *
     refine hK.out _ _ ⟨(blk_cell (HXT.out _ T_2_6_5_7.out) 0).trans rfl, (blk_cell (HXT.out _ T_2_6_5_7.out) 1).trans rfl, (blk_cell (HXT.out _ T_2_6_5_7.out) 2).trans rfl, (blk_cell (HYT.out _ T_2_6_5_7.out) 0).trans rfl, (blk_cell (HYT.out _ T_2_6_5_7.out) 1).trans rfl, (blk_cell (HYT.out _ T_2_6_5_7.out) 2).trans rfl⟩ (fun hHeld => ?_)
     clear hK K
     refine norm_ (a' := ?_) ?_ ?_
     rotate_left
     ·show Act.put _ (some 8) _ = _
      simp only [Act.put, List.setIfInBounds_toArray, List.set_cons_zero, List.set_cons_succ, i64_w, i32_w]
      rfl
     exact norm_ (by rfl) (hCont (r1, c1, cl1, r2, c2, cl2, g6, g7, hs6, ws6) _ ⟨L1_2_6_5_7.out, K1_2_6_5_7.out, L2_2_6_5_7.out, K2_2_6_5_7.out, Z6_2_6_5_7.out, Z7_2_6_5_7.out, ⟨GE6.out, GE7.out, NE67.out, GR1.out, GR2.out⟩, RM_2_6_5_7.out, T_2_6_5_7.out⟩)
    ·skip
     refine alloc_step (cs := #[.int .i64 0, .int .i64 0, .slice none 0 0]) (t := 25) (by rfl) rfl (by first | (go_simp; done) | (go_simp; rfl)) ?_
     intro g7 hg17
     have T_2_6_7 := Aside0.mk (But.step T_2_6.out (below_alloc (Below.refl _ w_2_6) (.cells #[.int .i64 0, .int .i64 0, .slice none 0 0] 25 (0, 0))))
     have RM_2_6_7 := Aside0.mk (RM_2_6.out.below (below_alloc (Below.refl _ w_2_6) (.cells #[.int .i64 0, .int .i64 0, .slice none 0 0] 25 (0, 0))))
     have Z7_2_6_7 := Aside0.mk (blk_new w_2_6 (.cells #[.int .i64 0, .int .i64 0, .slice none 0 0] 25 (0, 0)))
     rw [← hg17] at Z7_2_6_7
     have GE7 := Aside0.mk (show w5x.heap.size ≤ g7 by rw [hg17]; exact T_2_6.out.size)
     have Z6_2_6_7 := Aside0.mk (blk_below Z6_2_6.out (below_alloc (Below.refl _ w_2_6) (.cells #[.int .i64 0, .int .i64 0, .slice none 0 0] 25 (0, 0))))
     have NE67 := Aside0.mk (show g6 ≠ g7 by have := blk_lt Z6_2_6.out; omega)
     have L1_2_6_7 := Aside0.mk (L1_2_6.out.below (below_alloc (Below.refl _ w_2_6) (.cells #[.int .i64 0, .int .i64 0, .slice none 0 0] 25 (0, 0))))
     have K1_2_6_7 := Aside0.mk (blk_below K1_2_6.out (below_alloc (Below.refl _ w_2_6) (.cells #[.int .i64 0, .int .i64 0, .slice none 0 0] 25 (0, 0))))
     clear hg17
     generalize w_2_6.alloc (.cells #[.int .i64 0, .int .i64 0, .slice none 0 0] 25 (0, 0)) = w_2_6_7 at *
     refine hK.out _ _ ⟨(blk_cell (HXT.out _ T_2_6_7.out) 0).trans rfl, (blk_cell (HXT.out _ T_2_6_7.out) 1).trans rfl, (blk_cell (HXT.out _ T_2_6_7.out) 2).trans rfl, (blk_cell (HYT.out _ T_2_6_7.out) 0).trans rfl, (blk_cell (HYT.out _ T_2_6_7.out) 1).trans rfl, (blk_cell (HYT.out _ T_2_6_7.out) 2).trans rfl⟩ (fun hHeld => ?_)
     clear hK K
     refine norm_ (a' := ?_) ?_ ?_
     rotate_left
     ·show Act.put _ (some 8) _ = _
      simp only [Act.put, List.setIfInBounds_toArray, List.set_cons_zero, List.set_cons_succ, i64_w, i32_w]
      rfl
     refine one_ (i := 5) (N := some 29) #[tt_,tt_,tt_,tt_,tt_,tt_,tt_,tt_,ff_,ff_] rfl rfl (by kernel_rfl) (by decide) (fun K hK => ?_)
     refine goes_ Try.func13 (by kernel_rfl) rfl #[.pointer (some ⟨gM, 0, none⟩), .agg #[.int .i64 u, .int .i64 v, .slice D m dcap]] (by rfl) rfl rfl (by (try simp only [List.map_toArray, List.map_cons, List.map_nil]); rfl) ?_
     refine (roomPlane gM w5x.heap.size u v D m dcap q hs5 ws5 _ RM_2_6_7.out HML.out T_2_6_7.out.size (HLY.out _ T_2_6_7.out) hb5 (by rw [HL5.out]; decide)).mono ?_
     rintro e w_2_6_7_5 ⟨r2, c2, hs6, ws6, rfl, hL, hr, hK, hl, hT, hQ, cl2, hc⟩
     refine ⟨_, rfl, ?_⟩
     have T_2_6_7_5 := Aside0.mk (T_2_6_7.out.trans hT)
     have RM_2_6_7_5 := Aside0.mk (hK)
     have L2_2_6_7_5 := Aside0.mk (hL)
     have K2_2_6_7_5 := Aside0.mk (hc)
     have GR2 := Aside0.mk (Nat.le_trans T_2_6_7.out.size hr)
     have L1_2_6_7_5 := Aside0.mk (show PL w_2_6_7_5 (some ⟨r1, 0, none⟩) n c1 p from ⟨C_at L1_2_6_7.out.1 (hQ r1 _ _ K1_2_6_7.out (.inl rfl)), L1_2_6_7.out.2⟩)
     have K1_2_6_7_5 := Aside0.mk ((hQ r1 _ _ K1_2_6_7.out (.inl rfl)).trans K1_2_6_7.out)
     have Z6_2_6_7_5 := Aside0.mk ((hQ g6 _ _ Z6_2_6_7.out (.inr rfl)).trans Z6_2_6_7.out)
     have Z7_2_6_7_5 := Aside0.mk ((hQ g7 _ _ Z7_2_6_7.out (.inr rfl)).trans Z7_2_6_7.out)
     clear hL hr hK hl hT hQ hc
     refine hK.out _ _ ⟨(blk_cell (HXT.out _ T_2_6_7_5.out) 0).trans rfl, (blk_cell (HXT.out _ T_2_6_7_5.out) 1).trans rfl, (blk_cell (HXT.out _ T_2_6_7_5.out) 2).trans rfl, (blk_cell (HYT.out _ T_2_6_7_5.out) 0).trans rfl, (blk_cell (HYT.out _ T_2_6_7_5.out) 1).trans rfl, (blk_cell (HYT.out _ T_2_6_7_5.out) 2).trans rfl⟩ (fun hHeld => ?_)
     clear hK K
     refine norm_ (a' := ?_) ?_ ?_
     rotate_left
     ·show Act.put _ (some 29) _ = _
      simp only [Act.put, List.setIfInBounds_toArray, List.set_cons_zero, List.set_cons_succ, i64_w, i32_w]
      rfl
     exact norm_ (by rfl) (hCont (r1, c1, cl1, r2, c2, cl2, g6, g7, hs6, ws6) _ ⟨L1_2_6_7_5.out, K1_2_6_7_5.out, L2_2_6_7_5.out, K2_2_6_7_5.out, Z6_2_6_7_5.out, Z7_2_6_7_5.out, ⟨GE6.out, GE7.out, NE67.out, GR1.out, GR2.out⟩, RM_2_6_7_5.out, T_2_6_7_5.out⟩)
   ·skip
    refine alloc_step (cs := #[.int .i64 0, .int .i64 0, .slice none 0 0]) (t := 25) (by rfl) rfl (by first | (go_simp; done) | (go_simp; rfl)) ?_
    intro g7 hg17
    have T_2_7 := Aside0.mk (But.step T_2.out (below_alloc (Below.refl _ w_2) (.cells #[.int .i64 0, .int .i64 0, .slice none 0 0] 25 (0, 0))))
    have RM_2_7 := Aside0.mk (RM_2.out.below (below_alloc (Below.refl _ w_2) (.cells #[.int .i64 0, .int .i64 0, .slice none 0 0] 25 (0, 0))))
    have Z7_2_7 := Aside0.mk (blk_new w_2 (.cells #[.int .i64 0, .int .i64 0, .slice none 0 0] 25 (0, 0)))
    rw [← hg17] at Z7_2_7
    have GE7 := Aside0.mk (show w5x.heap.size ≤ g7 by rw [hg17]; exact T_2.out.size)
    have L1_2_7 := Aside0.mk (L1_2.out.below (below_alloc (Below.refl _ w_2) (.cells #[.int .i64 0, .int .i64 0, .slice none 0 0] 25 (0, 0))))
    have K1_2_7 := Aside0.mk (blk_below K1_2.out (below_alloc (Below.refl _ w_2) (.cells #[.int .i64 0, .int .i64 0, .slice none 0 0] 25 (0, 0))))
    clear hg17
    generalize w_2.alloc (.cells #[.int .i64 0, .int .i64 0, .slice none 0 0] 25 (0, 0)) = w_2_7 at *
    refine hK.out _ _ ⟨(blk_cell (HXT.out _ T_2_7.out) 0).trans rfl, (blk_cell (HXT.out _ T_2_7.out) 1).trans rfl, (blk_cell (HXT.out _ T_2_7.out) 2).trans rfl, (blk_cell (HYT.out _ T_2_7.out) 0).trans rfl, (blk_cell (HYT.out _ T_2_7.out) 1).trans rfl, (blk_cell (HYT.out _ T_2_7.out) 2).trans rfl⟩ (fun hHeld => ?_)
    clear hK K
    refine norm_ (a' := ?_) ?_ ?_
    rotate_left
    ·show Act.put _ (some 8) _ = _
     simp only [Act.put, List.setIfInBounds_toArray, List.set_cons_zero, List.set_cons_succ, i64_w, i32_w]
     rfl
    refine two_ (i := 5) (j := 6) (Ni := some 29) (Nj := some 7) #[tt_,tt_,tt_,tt_,tt_,tt_,ff_,tt_,ff_,ff_] #[tt_,tt_,tt_,tt_,tt_,ff_,tt_,tt_,ff_,ff_] rfl rfl rfl rfl (by kernel_rfl) (by decide) (by decide) (fun K hK => ?_) (fun K hK => ?_)
    ·skip
     refine goes_ Try.func13 (by kernel_rfl) rfl #[.pointer (some ⟨gM, 0, none⟩), .agg #[.int .i64 u, .int .i64 v, .slice D m dcap]] (by rfl) rfl rfl (by (try simp only [List.map_toArray, List.map_cons, List.map_nil]); rfl) ?_
     refine (roomPlane gM w5x.heap.size u v D m dcap q hs5 ws5 _ RM_2_7.out HML.out T_2_7.out.size (HLY.out _ T_2_7.out) hb5 (by rw [HL5.out]; decide)).mono ?_
     rintro e w_2_7_5 ⟨r2, c2, hs6, ws6, rfl, hL, hr, hK, hl, hT, hQ, cl2, hc⟩
     refine ⟨_, rfl, ?_⟩
     have T_2_7_5 := Aside0.mk (T_2_7.out.trans hT)
     have RM_2_7_5 := Aside0.mk (hK)
     have L2_2_7_5 := Aside0.mk (hL)
     have K2_2_7_5 := Aside0.mk (hc)
     have GR2 := Aside0.mk (Nat.le_trans T_2_7.out.size hr)
     have L1_2_7_5 := Aside0.mk (show PL w_2_7_5 (some ⟨r1, 0, none⟩) n c1 p from ⟨C_at L1_2_7.out.1 (hQ r1 _ _ K1_2_7.out (.inl rfl)), L1_2_7.out.2⟩)
     have K1_2_7_5 := Aside0.mk ((hQ r1 _ _ K1_2_7.out (.inl rfl)).trans K1_2_7.out)
     have Z7_2_7_5 := Aside0.mk ((hQ g7 _ _ Z7_2_7.out (.inr rfl)).trans Z7_2_7.out)
     clear hL hr hK hl hT hQ hc
     refine hK.out _ _ ⟨(blk_cell (HXT.out _ T_2_7_5.out) 0).trans rfl, (blk_cell (HXT.out _ T_2_7_5.out) 1).trans rfl, (blk_cell (HXT.out _ T_2_7_5.out) 2).trans rfl, (blk_cell (HYT.out _ T_2_7_5.out) 0).trans rfl, (blk_cell (HYT.out _ T_2_7_5.out) 1).trans rfl, (blk_cell (HYT.out _ T_2_7_5.out) 2).trans rfl⟩ (fun hHeld => ?_)
     clear hK K
     refine norm_ (a' := ?_) ?_ ?_
     rotate_left
     ·show Act.put _ (some 29) _ = _
      simp only [Act.put, List.setIfInBounds_toArray, List.set_cons_zero, List.set_cons_succ, i64_w, i32_w]
      rfl
     refine one_ (i := 6) (N := some 7) #[tt_,tt_,tt_,tt_,tt_,tt_,tt_,tt_,ff_,ff_] rfl rfl (by kernel_rfl) (by decide) (fun K hK => ?_)
     refine alloc_step (cs := #[.int .i64 0, .int .i64 0, .slice none 0 0]) (t := 25) (by rfl) rfl (by first | (go_simp; done) | (go_simp; rfl)) ?_
     intro g6 hg17
     have T_2_7_5_6 := Aside0.mk (But.step T_2_7_5.out (below_alloc (Below.refl _ w_2_7_5) (.cells #[.int .i64 0, .int .i64 0, .slice none 0 0] 25 (0, 0))))
     have RM_2_7_5_6 := Aside0.mk (RM_2_7_5.out.below (below_alloc (Below.refl _ w_2_7_5) (.cells #[.int .i64 0, .int .i64 0, .slice none 0 0] 25 (0, 0))))
     have Z6_2_7_5_6 := Aside0.mk (blk_new w_2_7_5 (.cells #[.int .i64 0, .int .i64 0, .slice none 0 0] 25 (0, 0)))
     rw [← hg17] at Z6_2_7_5_6
     have GE6 := Aside0.mk (show w5x.heap.size ≤ g6 by rw [hg17]; exact T_2_7_5.out.size)
     have Z7_2_7_5_6 := Aside0.mk (blk_below Z7_2_7_5.out (below_alloc (Below.refl _ w_2_7_5) (.cells #[.int .i64 0, .int .i64 0, .slice none 0 0] 25 (0, 0))))
     have NE67 := Aside0.mk (show g6 ≠ g7 by have := blk_lt Z7_2_7_5.out; omega)
     have L1_2_7_5_6 := Aside0.mk (L1_2_7_5.out.below (below_alloc (Below.refl _ w_2_7_5) (.cells #[.int .i64 0, .int .i64 0, .slice none 0 0] 25 (0, 0))))
     have K1_2_7_5_6 := Aside0.mk (blk_below K1_2_7_5.out (below_alloc (Below.refl _ w_2_7_5) (.cells #[.int .i64 0, .int .i64 0, .slice none 0 0] 25 (0, 0))))
     have L2_2_7_5_6 := Aside0.mk (L2_2_7_5.out.below (below_alloc (Below.refl _ w_2_7_5) (.cells #[.int .i64 0, .int .i64 0, .slice none 0 0] 25 (0, 0))))
     have K2_2_7_5_6 := Aside0.mk (blk_below K2_2_7_5.out (below_alloc (Below.refl _ w_2_7_5) (.cells #[.int .i64 0, .int .i64 0, .slice none 0 0] 25 (0, 0))))
     clear hg17
     generalize w_2_7_5.alloc (.cells #[.int .i64 0, .int .i64 0, .slice none 0 0] 25 (0, 0)) = w_2_7_5_6 at *
     refine hK.out _ _ ⟨(blk_cell (HXT.out _ T_2_7_5_6.out) 0).trans rfl, (blk_cell (HXT.out _ T_2_7_5_6.out) 1).trans rfl, (blk_cell (HXT.out _ T_2_7_5_6.out) 2).trans rfl, (blk_cell (HYT.out _ T_2_7_5_6.out) 0).trans rfl, (blk_cell (HYT.out _ T_2_7_5_6.out) 1).trans rfl, (blk_cell (HYT.out _ T_2_7_5_6.out) 2).trans rfl⟩ (fun hHeld => ?_)
     clear hK K
     refine norm_ (a' := ?_) ?_ ?_
     rotate_left
     ·show Act.put _ (some 7) _ = _
      simp only [Act.put, List.setIfInBounds_toArray, List.set_cons_zero, List.set_cons_succ, i64_w, i32_w]
      rfl
     exact norm_ (by rfl) (hCont (r1, c1, cl1, r2, c2, cl2, g6, g7, hs6, ws6) _ ⟨L1_2_7_5_6.out, K1_2_7_5_6.out, L2_2_7_5_6.out, K2_2_7_5_6.out, Z6_2_7_5_6.out, Z7_2_7_5_6.out, ⟨GE6.out, GE7.out, NE67.out, GR1.out, GR2.out⟩, RM_2_7_5_6.out, T_2_7_5_6.out⟩)
    ·skip
     refine alloc_step (cs := #[.int .i64 0, .int .i64 0, .slice none 0 0]) (t := 25) (by rfl) rfl (by first | (go_simp; done) | (go_simp; rfl)) ?_
     intro g6 hg17
     have T_2_7_6 := Aside0.mk (But.step T_2_7.out (below_alloc (Below.refl _ w_2_7) (.cells #[.int .i64 0, .int .i64 0, .slice none 0 0] 25 (0, 0))))
     have RM_2_7_6 := Aside0.mk (RM_2_7.out.below (below_alloc (Below.refl _ w_2_7) (.cells #[.int .i64 0, .int .i64 0, .slice none 0 0] 25 (0, 0))))
     have Z6_2_7_6 := Aside0.mk (blk_new w_2_7 (.cells #[.int .i64 0, .int .i64 0, .slice none 0 0] 25 (0, 0)))
     rw [← hg17] at Z6_2_7_6
     have GE6 := Aside0.mk (show w5x.heap.size ≤ g6 by rw [hg17]; exact T_2_7.out.size)
     have Z7_2_7_6 := Aside0.mk (blk_below Z7_2_7.out (below_alloc (Below.refl _ w_2_7) (.cells #[.int .i64 0, .int .i64 0, .slice none 0 0] 25 (0, 0))))
     have NE67 := Aside0.mk (show g6 ≠ g7 by have := blk_lt Z7_2_7.out; omega)
     have L1_2_7_6 := Aside0.mk (L1_2_7.out.below (below_alloc (Below.refl _ w_2_7) (.cells #[.int .i64 0, .int .i64 0, .slice none 0 0] 25 (0, 0))))
     have K1_2_7_6 := Aside0.mk (blk_below K1_2_7.out (below_alloc (Below.refl _ w_2_7) (.cells #[.int .i64 0, .int .i64 0, .slice none 0 0] 25 (0, 0))))
     clear hg17
     generalize w_2_7.alloc (.cells #[.int .i64 0, .int .i64 0, .slice none 0 0] 25 (0, 0)) = w_2_7_6 at *
     refine hK.out _ _ ⟨(blk_cell (HXT.out _ T_2_7_6.out) 0).trans rfl, (blk_cell (HXT.out _ T_2_7_6.out) 1).trans rfl, (blk_cell (HXT.out _ T_2_7_6.out) 2).trans rfl, (blk_cell (HYT.out _ T_2_7_6.out) 0).trans rfl, (blk_cell (HYT.out _ T_2_7_6.out) 1).trans rfl, (blk_cell (HYT.out _ T_2_7_6.out) 2).trans rfl⟩ (fun hHeld => ?_)
     clear hK K
     refine norm_ (a' := ?_) ?_ ?_
     rotate_left
     ·show Act.put _ (some 7) _ = _
      simp only [Act.put, List.setIfInBounds_toArray, List.set_cons_zero, List.set_cons_succ, i64_w, i32_w]
      rfl
     refine one_ (i := 5) (N := some 29) #[tt_,tt_,tt_,tt_,tt_,tt_,tt_,tt_,ff_,ff_] rfl rfl (by kernel_rfl) (by decide) (fun K hK => ?_)
     refine goes_ Try.func13 (by kernel_rfl) rfl #[.pointer (some ⟨gM, 0, none⟩), .agg #[.int .i64 u, .int .i64 v, .slice D m dcap]] (by rfl) rfl rfl (by (try simp only [List.map_toArray, List.map_cons, List.map_nil]); rfl) ?_
     refine (roomPlane gM w5x.heap.size u v D m dcap q hs5 ws5 _ RM_2_7_6.out HML.out T_2_7_6.out.size (HLY.out _ T_2_7_6.out) hb5 (by rw [HL5.out]; decide)).mono ?_
     rintro e w_2_7_6_5 ⟨r2, c2, hs6, ws6, rfl, hL, hr, hK, hl, hT, hQ, cl2, hc⟩
     refine ⟨_, rfl, ?_⟩
     have T_2_7_6_5 := Aside0.mk (T_2_7_6.out.trans hT)
     have RM_2_7_6_5 := Aside0.mk (hK)
     have L2_2_7_6_5 := Aside0.mk (hL)
     have K2_2_7_6_5 := Aside0.mk (hc)
     have GR2 := Aside0.mk (Nat.le_trans T_2_7_6.out.size hr)
     have L1_2_7_6_5 := Aside0.mk (show PL w_2_7_6_5 (some ⟨r1, 0, none⟩) n c1 p from ⟨C_at L1_2_7_6.out.1 (hQ r1 _ _ K1_2_7_6.out (.inl rfl)), L1_2_7_6.out.2⟩)
     have K1_2_7_6_5 := Aside0.mk ((hQ r1 _ _ K1_2_7_6.out (.inl rfl)).trans K1_2_7_6.out)
     have Z6_2_7_6_5 := Aside0.mk ((hQ g6 _ _ Z6_2_7_6.out (.inr rfl)).trans Z6_2_7_6.out)
     have Z7_2_7_6_5 := Aside0.mk ((hQ g7 _ _ Z7_2_7_6.out (.inr rfl)).trans Z7_2_7_6.out)
     clear hL hr hK hl hT hQ hc
     refine hK.out _ _ ⟨(blk_cell (HXT.out _ T_2_7_6_5.out) 0).trans rfl, (blk_cell (HXT.out _ T_2_7_6_5.out) 1).trans rfl, (blk_cell (HXT.out _ T_2_7_6_5.out) 2).trans rfl, (blk_cell (HYT.out _ T_2_7_6_5.out) 0).trans rfl, (blk_cell (HYT.out _ T_2_7_6_5.out) 1).trans rfl, (blk_cell (HYT.out _ T_2_7_6_5.out) 2).trans rfl⟩ (fun hHeld => ?_)
     clear hK K
     refine norm_ (a' := ?_) ?_ ?_
     rotate_left
     ·show Act.put _ (some 29) _ = _
      simp only [Act.put, List.setIfInBounds_toArray, List.set_cons_zero, List.set_cons_succ, i64_w, i32_w]
      rfl
     exact norm_ (by rfl) (hCont (r1, c1, cl1, r2, c2, cl2, g6, g7, hs6, ws6) _ ⟨L1_2_7_6_5.out, K1_2_7_6_5.out, L2_2_7_6_5.out, K2_2_7_6_5.out, Z6_2_7_6_5.out, Z7_2_7_6_5.out, ⟨GE6.out, GE7.out, NE67.out, GR1.out, GR2.out⟩, RM_2_7_6_5.out, T_2_7_6_5.out⟩)
  ·skip
   refine alloc_step (cs := #[.int .i64 0, .int .i64 0, .slice none 0 0]) (t := 25) (by rfl) rfl (by first | (go_simp; done) | (go_simp; rfl)) ?_
   intro g6 hg17
   have T_6 := Aside0.mk (But.step T_.out (below_alloc (Below.refl _ w5x) (.cells #[.int .i64 0, .int .i64 0, .slice none 0 0] 25 (0, 0))))
   have RM_6 := Aside0.mk (RM_.out.below (below_alloc (Below.refl _ w5x) (.cells #[.int .i64 0, .int .i64 0, .slice none 0 0] 25 (0, 0))))
   have Z6_6 := Aside0.mk (blk_new w5x (.cells #[.int .i64 0, .int .i64 0, .slice none 0 0] 25 (0, 0)))
   rw [← hg17] at Z6_6
   have GE6 := Aside0.mk (show w5x.heap.size ≤ g6 by rw [hg17]; exact T_.out.size)
   clear hg17
   generalize w5x.alloc (.cells #[.int .i64 0, .int .i64 0, .slice none 0 0] 25 (0, 0)) = w_6 at *
   refine hK.out _ _ ⟨(blk_cell (HXT.out _ T_6.out) 0).trans rfl, (blk_cell (HXT.out _ T_6.out) 1).trans rfl, (blk_cell (HXT.out _ T_6.out) 2).trans rfl, (blk_cell (HYT.out _ T_6.out) 0).trans rfl, (blk_cell (HYT.out _ T_6.out) 1).trans rfl, (blk_cell (HYT.out _ T_6.out) 2).trans rfl⟩ (fun hHeld => ?_)
   clear hK K
   refine norm_ (a' := ?_) ?_ ?_
   rotate_left
   ·show Act.put _ (some 7) _ = _
    simp only [Act.put, List.setIfInBounds_toArray, List.set_cons_zero, List.set_cons_succ, i64_w, i32_w]
    rfl
   refine two_ (i := 2) (j := 7) (Ni := some 26) (Nj := some 8) #[tt_,tt_,tt_,tt_,tt_,ff_,tt_,ff_,ff_,ff_] #[tt_,tt_,ff_,tt_,tt_,ff_,tt_,tt_,ff_,ff_] rfl rfl rfl rfl (by kernel_rfl) (by decide) (by decide) (fun K hK => ?_) (fun K hK => ?_)
   ·skip
    refine goes_ Try.func13 (by kernel_rfl) rfl #[.pointer (some ⟨gM, 0, none⟩), .agg #[.int .i64 x, .int .i64 y, .slice A n cap]] (by rfl) rfl rfl (by (try simp only [List.map_toArray, List.map_cons, List.map_nil]); rfl) ?_
    refine (roomPlane gM w5x.heap.size x y A n cap p [] [] _ RM_6.out HML.out T_6.out.size (HLX.out _ T_6.out) hb4 (Nat.zero_le _)).mono ?_
    rintro e w_6_2 ⟨r1, c1, hs5, ws5, rfl, hL, hr, hK, hl, hT, hQ, cl1, hc⟩
    refine ⟨_, rfl, ?_⟩
    have T_6_2 := Aside0.mk (T_6.out.trans hT)
    have RM_6_2 := Aside0.mk (hK)
    have L1_6_2 := Aside0.mk (hL)
    have K1_6_2 := Aside0.mk (hc)
    have GR1 := Aside0.mk (Nat.le_trans T_6.out.size hr)
    have HL5 := Aside0.mk (hl)
    have Z6_6_2 := Aside0.mk ((hQ g6 _ _ Z6_6.out (.inr rfl)).trans Z6_6.out)
    clear hL hr hK hl hT hQ hc
    refine hK.out _ _ ⟨(blk_cell (HXT.out _ T_6_2.out) 0).trans rfl, (blk_cell (HXT.out _ T_6_2.out) 1).trans rfl, (blk_cell (HXT.out _ T_6_2.out) 2).trans rfl, (blk_cell (HYT.out _ T_6_2.out) 0).trans rfl, (blk_cell (HYT.out _ T_6_2.out) 1).trans rfl, (blk_cell (HYT.out _ T_6_2.out) 2).trans rfl⟩ (fun hHeld => ?_)
    clear hK K
    refine norm_ (a' := ?_) ?_ ?_
    rotate_left
    ·show Act.put _ (some 26) _ = _
     simp only [Act.put, List.setIfInBounds_toArray, List.set_cons_zero, List.set_cons_succ, i64_w, i32_w]
     rfl
    refine two_ (i := 5) (j := 7) (Ni := some 29) (Nj := some 8) #[tt_,tt_,tt_,tt_,tt_,tt_,tt_,ff_,ff_,ff_] #[tt_,tt_,tt_,tt_,tt_,ff_,tt_,tt_,ff_,ff_] rfl rfl rfl rfl (by kernel_rfl) (by decide) (by decide) (fun K hK => ?_) (fun K hK => ?_)
    ·skip
     refine goes_ Try.func13 (by kernel_rfl) rfl #[.pointer (some ⟨gM, 0, none⟩), .agg #[.int .i64 u, .int .i64 v, .slice D m dcap]] (by rfl) rfl rfl (by (try simp only [List.map_toArray, List.map_cons, List.map_nil]); rfl) ?_
     refine (roomPlane gM w5x.heap.size u v D m dcap q hs5 ws5 _ RM_6_2.out HML.out T_6_2.out.size (HLY.out _ T_6_2.out) hb5 (by rw [HL5.out]; decide)).mono ?_
     rintro e w_6_2_5 ⟨r2, c2, hs6, ws6, rfl, hL, hr, hK, hl, hT, hQ, cl2, hc⟩
     refine ⟨_, rfl, ?_⟩
     have T_6_2_5 := Aside0.mk (T_6_2.out.trans hT)
     have RM_6_2_5 := Aside0.mk (hK)
     have L2_6_2_5 := Aside0.mk (hL)
     have K2_6_2_5 := Aside0.mk (hc)
     have GR2 := Aside0.mk (Nat.le_trans T_6_2.out.size hr)
     have L1_6_2_5 := Aside0.mk (show PL w_6_2_5 (some ⟨r1, 0, none⟩) n c1 p from ⟨C_at L1_6_2.out.1 (hQ r1 _ _ K1_6_2.out (.inl rfl)), L1_6_2.out.2⟩)
     have K1_6_2_5 := Aside0.mk ((hQ r1 _ _ K1_6_2.out (.inl rfl)).trans K1_6_2.out)
     have Z6_6_2_5 := Aside0.mk ((hQ g6 _ _ Z6_6_2.out (.inr rfl)).trans Z6_6_2.out)
     clear hL hr hK hl hT hQ hc
     refine hK.out _ _ ⟨(blk_cell (HXT.out _ T_6_2_5.out) 0).trans rfl, (blk_cell (HXT.out _ T_6_2_5.out) 1).trans rfl, (blk_cell (HXT.out _ T_6_2_5.out) 2).trans rfl, (blk_cell (HYT.out _ T_6_2_5.out) 0).trans rfl, (blk_cell (HYT.out _ T_6_2_5.out) 1).trans rfl, (blk_cell (HYT.out _ T_6_2_5.out) 2).trans rfl⟩ (fun hHeld => ?_)
     clear hK K
     refine norm_ (a' := ?_) ?_ ?_
     rotate_left
     ·show Act.put _ (some 29) _ = _
      simp only [Act.put, List.setIfInBounds_toArray, List.set_cons_zero, List.set_cons_succ, i64_w, i32_w]
      rfl
     refine one_ (i := 7) (N := some 8) #[tt_,tt_,tt_,tt_,tt_,tt_,tt_,tt_,ff_,ff_] rfl rfl (by kernel_rfl) (by decide) (fun K hK => ?_)
     refine alloc_step (cs := #[.int .i64 0, .int .i64 0, .slice none 0 0]) (t := 25) (by rfl) rfl (by first | (go_simp; done) | (go_simp; rfl)) ?_
     intro g7 hg17
     have T_6_2_5_7 := Aside0.mk (But.step T_6_2_5.out (below_alloc (Below.refl _ w_6_2_5) (.cells #[.int .i64 0, .int .i64 0, .slice none 0 0] 25 (0, 0))))
     have RM_6_2_5_7 := Aside0.mk (RM_6_2_5.out.below (below_alloc (Below.refl _ w_6_2_5) (.cells #[.int .i64 0, .int .i64 0, .slice none 0 0] 25 (0, 0))))
     have Z7_6_2_5_7 := Aside0.mk (blk_new w_6_2_5 (.cells #[.int .i64 0, .int .i64 0, .slice none 0 0] 25 (0, 0)))
     rw [← hg17] at Z7_6_2_5_7
     have GE7 := Aside0.mk (show w5x.heap.size ≤ g7 by rw [hg17]; exact T_6_2_5.out.size)
     have Z6_6_2_5_7 := Aside0.mk (blk_below Z6_6_2_5.out (below_alloc (Below.refl _ w_6_2_5) (.cells #[.int .i64 0, .int .i64 0, .slice none 0 0] 25 (0, 0))))
     have NE67 := Aside0.mk (show g6 ≠ g7 by have := blk_lt Z6_6_2_5.out; omega)
     have L1_6_2_5_7 := Aside0.mk (L1_6_2_5.out.below (below_alloc (Below.refl _ w_6_2_5) (.cells #[.int .i64 0, .int .i64 0, .slice none 0 0] 25 (0, 0))))
     have K1_6_2_5_7 := Aside0.mk (blk_below K1_6_2_5.out (below_alloc (Below.refl _ w_6_2_5) (.cells #[.int .i64 0, .int .i64 0, .slice none 0 0] 25 (0, 0))))
     have L2_6_2_5_7 := Aside0.mk (L2_6_2_5.out.below (below_alloc (Below.refl _ w_6_2_5) (.cells #[.int .i64 0, .int .i64 0, .slice none 0 0] 25 (0, 0))))
     have K2_6_2_5_7 := Aside0.mk (blk_below K2_6_2_5.out (below_alloc (Below.refl _ w_6_2_5) (.cells #[.int .i64 0, .int .i64 0, .slice none 0 0] 25 (0, 0))))
     clear hg17
     generalize w_6_2_5.alloc (.cells #[.int .i64 0, .int .i64 0, .slice none 0 0] 25 (0, 0)) = w_6_2_5_7 at *
     refine hK.out _ _ ⟨(blk_cell (HXT.out _ T_6_2_5_7.out) 0).trans rfl, (blk_cell (HXT.out _ T_6_2_5_7.out) 1).trans rfl, (blk_cell (HXT.out _ T_6_2_5_7.out) 2).trans rfl, (blk_cell (HYT.out _ T_6_2_5_7.out) 0).trans rfl, (blk_cell (HYT.out _ T_6_2_5_7.out) 1).trans rfl, (blk_cell (HYT.out _ T_6_2_5_7.out) 2).trans rfl⟩ (fun hHeld => ?_)
     clear hK K
     refine norm_ (a' := ?_) ?_ ?_
     rotate_left
     ·show Act.put _ (some 8) _ = _
      simp only [Act.put, List.setIfInBounds_toArray, List.set_cons_zero, List.set_cons_succ, i64_w, i32_w]
      rfl
     exact norm_ (by rfl) (hCont (r1, c1, cl1, r2, c2, cl2, g6, g7, hs6, ws6) _ ⟨L1_6_2_5_7.out, K1_6_2_5_7.out, L2_6_2_5_7.out, K2_6_2_5_7.out, Z6_6_2_5_7.out, Z7_6_2_5_7.out, ⟨GE6.out, GE7.out, NE67.out, GR1.out, GR2.out⟩, RM_6_2_5_7.out, T_6_2_5_7.out⟩)
    ·skip
     refine alloc_step (cs := #[.int .i64 0, .int .i64 0, .slice none 0 0]) (t := 25) (by rfl) rfl (by first | (go_simp; done) | (go_simp; rfl)) ?_
     intro g7 hg17
     have T_6_2_7 := Aside0.mk (But.step T_6_2.out (below_alloc (Below.refl _ w_6_2) (.cells #[.int .i64 0, .int .i64 0, .slice none 0 0] 25 (0, 0))))
     have RM_6_2_7 := Aside0.mk (RM_6_2.out.below (below_alloc (Below.refl _ w_6_2) (.cells #[.int .i64 0, .int .i64 0, .slice none 0 0] 25 (0, 0))))
     have Z7_6_2_7 := Aside0.mk (blk_new w_6_2 (.cells #[.int .i64 0, .int .i64 0, .slice none 0 0] 25 (0, 0)))
     rw [← hg17] at Z7_6_2_7
     have GE7 := Aside0.mk (show w5x.heap.size ≤ g7 by rw [hg17]; exact T_6_2.out.size)
     have Z6_6_2_7 := Aside0.mk (blk_below Z6_6_2.out (below_alloc (Below.refl _ w_6_2) (.cells #[.int .i64 0, .int .i64 0, .slice none 0 0] 25 (0, 0))))
     have NE67 := Aside0.mk (show g6 ≠ g7 by have := blk_lt Z6_6_2.out; omega)
     have L1_6_2_7 := Aside0.mk (L1_6_2.out.below (below_alloc (Below.refl _ w_6_2) (.cells #[.int .i64 0, .int .i64 0, .slice none 0 0] 25 (0, 0))))
     have K1_6_2_7 := Aside0.mk (blk_below K1_6_2.out (below_alloc (Below.refl _ w_6_2) (.cells #[.int .i64 0, .int .i64 0, .slice none 0 0] 25 (0, 0))))
     clear hg17
     generalize w_6_2.alloc (.cells #[.int .i64 0, .int .i64 0, .slice none 0 0] 25 (0, 0)) = w_6_2_7 at *
     refine hK.out _ _ ⟨(blk_cell (HXT.out _ T_6_2_7.out) 0).trans rfl, (blk_cell (HXT.out _ T_6_2_7.out) 1).trans rfl, (blk_cell (HXT.out _ T_6_2_7.out) 2).trans rfl, (blk_cell (HYT.out _ T_6_2_7.out) 0).trans rfl, (blk_cell (HYT.out _ T_6_2_7.out) 1).trans rfl, (blk_cell (HYT.out _ T_6_2_7.out) 2).trans rfl⟩ (fun hHeld => ?_)
     clear hK K
     refine norm_ (a' := ?_) ?_ ?_
     rotate_left
     ·show Act.put _ (some 8) _ = _
      simp only [Act.put, List.setIfInBounds_toArray, List.set_cons_zero, List.set_cons_succ, i64_w, i32_w]
      rfl
     refine one_ (i := 5) (N := some 29) #[tt_,tt_,tt_,tt_,tt_,tt_,tt_,tt_,ff_,ff_] rfl rfl (by kernel_rfl) (by decide) (fun K hK => ?_)
     refine goes_ Try.func13 (by kernel_rfl) rfl #[.pointer (some ⟨gM, 0, none⟩), .agg #[.int .i64 u, .int .i64 v, .slice D m dcap]] (by rfl) rfl rfl (by (try simp only [List.map_toArray, List.map_cons, List.map_nil]); rfl) ?_
     refine (roomPlane gM w5x.heap.size u v D m dcap q hs5 ws5 _ RM_6_2_7.out HML.out T_6_2_7.out.size (HLY.out _ T_6_2_7.out) hb5 (by rw [HL5.out]; decide)).mono ?_
     rintro e w_6_2_7_5 ⟨r2, c2, hs6, ws6, rfl, hL, hr, hK, hl, hT, hQ, cl2, hc⟩
     refine ⟨_, rfl, ?_⟩
     have T_6_2_7_5 := Aside0.mk (T_6_2_7.out.trans hT)
     have RM_6_2_7_5 := Aside0.mk (hK)
     have L2_6_2_7_5 := Aside0.mk (hL)
     have K2_6_2_7_5 := Aside0.mk (hc)
     have GR2 := Aside0.mk (Nat.le_trans T_6_2_7.out.size hr)
     have L1_6_2_7_5 := Aside0.mk (show PL w_6_2_7_5 (some ⟨r1, 0, none⟩) n c1 p from ⟨C_at L1_6_2_7.out.1 (hQ r1 _ _ K1_6_2_7.out (.inl rfl)), L1_6_2_7.out.2⟩)
     have K1_6_2_7_5 := Aside0.mk ((hQ r1 _ _ K1_6_2_7.out (.inl rfl)).trans K1_6_2_7.out)
     have Z6_6_2_7_5 := Aside0.mk ((hQ g6 _ _ Z6_6_2_7.out (.inr rfl)).trans Z6_6_2_7.out)
     have Z7_6_2_7_5 := Aside0.mk ((hQ g7 _ _ Z7_6_2_7.out (.inr rfl)).trans Z7_6_2_7.out)
     clear hL hr hK hl hT hQ hc
     refine hK.out _ _ ⟨(blk_cell (HXT.out _ T_6_2_7_5.out) 0).trans rfl, (blk_cell (HXT.out _ T_6_2_7_5.out) 1).trans rfl, (blk_cell (HXT.out _ T_6_2_7_5.out) 2).trans rfl, (blk_cell (HYT.out _ T_6_2_7_5.out) 0).trans rfl, (blk_cell (HYT.out _ T_6_2_7_5.out) 1).trans rfl, (blk_cell (HYT.out _ T_6_2_7_5.out) 2).trans rfl⟩ (fun hHeld => ?_)
     clear hK K
     refine norm_ (a' := ?_) ?_ ?_
     rotate_left
     ·show Act.put _ (some 29) _ = _
      simp only [Act.put, List.setIfInBounds_toArray, List.set_cons_zero, List.set_cons_succ, i64_w, i32_w]
      rfl
     exact norm_ (by rfl) (hCont (r1, c1, cl1, r2, c2, cl2, g6, g7, hs6, ws6) _ ⟨L1_6_2_7_5.out, K1_6_2_7_5.out, L2_6_2_7_5.out, K2_6_2_7_5.out, Z6_6_2_7_5.out, Z7_6_2_7_5.out, ⟨GE6.out, GE7.out, NE67.out, GR1.out, GR2.out⟩, RM_6_2_7_5.out, T_6_2_7_5.out⟩)
   ·skip
    refine alloc_step (cs := #[.int .i64 0, .int .i64 0, .slice none 0 0]) (t := 25) (by rfl) rfl (by first | (go_simp; done) | (go_simp; rfl)) ?_
    intro g7 hg17
    have T_6_7 := Aside0.mk (But.step T_6.out (below_alloc (Below.refl _ w_6) (.cells #[.int .i64 0, .int .i64 0, .slice none 0 0] 25 (0, 0))))
    have RM_6_7 := Aside0.mk (RM_6.out.below (below_alloc (Below.refl _ w_6) (.cells #[.int .i64 0, .int .i64 0, .slice none 0 0] 25 (0, 0))))
    have Z7_6_7 := Aside0.mk (blk_new w_6 (.cells #[.int .i64 0, .int .i64 0, .slice none 0 0] 25 (0, 0)))
    rw [← hg17] at Z7_6_7
    have GE7 := Aside0.mk (show w5x.heap.size ≤ g7 by rw [hg17]; exact T_6.out.size)
    have Z6_6_7 := Aside0.mk (blk_below Z6_6.out (below_alloc (Below.refl _ w_6) (.cells #[.int .i64 0, .int .i64 0, .slice none 0 0] 25 (0, 0))))
    have NE67 := Aside0.mk (show g6 ≠ g7 by have := blk_lt Z6_6.out; omega)
    clear hg17
    generalize w_6.alloc (.cells #[.int .i64 0, .int .i64 0, .slice none 0 0] 25 (0, 0)) = w_6_7 at *
    refine hK.out _ _ ⟨(blk_cell (HXT.out _ T_6_7.out) 0).trans rfl, (blk_cell (HXT.out _ T_6_7.out) 1).trans rfl, (blk_cell (HXT.out _ T_6_7.out) 2).trans rfl, (blk_cell (HYT.out _ T_6_7.out) 0).trans rfl, (blk_cell (HYT.out _ T_6_7.out) 1).trans rfl, (blk_cell (HYT.out _ T_6_7.out) 2).trans rfl⟩ (fun hHeld => ?_)
    clear hK K
    refine norm_ (a' := ?_) ?_ ?_
    rotate_left
    ·show Act.put _ (some 8) _ = _
     simp only [Act.put, List.setIfInBounds_toArray, List.set_cons_zero, List.set_cons_succ, i64_w, i32_w]
     rfl
    refine one_ (i := 2) (N := some 26) #[tt_,tt_,tt_,tt_,tt_,ff_,tt_,tt_,ff_,ff_] rfl rfl (by kernel_rfl) (by decide) (fun K hK => ?_)
    refine goes_ Try.func13 (by kernel_rfl) rfl #[.pointer (some ⟨gM, 0, none⟩), .agg #[.int .i64 x, .int .i64 y, .slice A n cap]] (by rfl) rfl rfl (by (try simp only [List.map_toArray, List.map_cons, List.map_nil]); rfl) ?_
    refine (roomPlane gM w5x.heap.size x y A n cap p [] [] _ RM_6_7.out HML.out T_6_7.out.size (HLX.out _ T_6_7.out) hb4 (Nat.zero_le _)).mono ?_
    rintro e w_6_7_2 ⟨r1, c1, hs5, ws5, rfl, hL, hr, hK, hl, hT, hQ, cl1, hc⟩
    refine ⟨_, rfl, ?_⟩
    have T_6_7_2 := Aside0.mk (T_6_7.out.trans hT)
    have RM_6_7_2 := Aside0.mk (hK)
    have L1_6_7_2 := Aside0.mk (hL)
    have K1_6_7_2 := Aside0.mk (hc)
    have GR1 := Aside0.mk (Nat.le_trans T_6_7.out.size hr)
    have HL5 := Aside0.mk (hl)
    have Z6_6_7_2 := Aside0.mk ((hQ g6 _ _ Z6_6_7.out (.inr rfl)).trans Z6_6_7.out)
    have Z7_6_7_2 := Aside0.mk ((hQ g7 _ _ Z7_6_7.out (.inr rfl)).trans Z7_6_7.out)
    clear hL hr hK hl hT hQ hc
    refine hK.out _ _ ⟨(blk_cell (HXT.out _ T_6_7_2.out) 0).trans rfl, (blk_cell (HXT.out _ T_6_7_2.out) 1).trans rfl, (blk_cell (HXT.out _ T_6_7_2.out) 2).trans rfl, (blk_cell (HYT.out _ T_6_7_2.out) 0).trans rfl, (blk_cell (HYT.out _ T_6_7_2.out) 1).trans rfl, (blk_cell (HYT.out _ T_6_7_2.out) 2).trans rfl⟩ (fun hHeld => ?_)
    clear hK K
    refine norm_ (a' := ?_) ?_ ?_
    rotate_left
    ·show Act.put _ (some 26) _ = _
     simp only [Act.put, List.setIfInBounds_toArray, List.set_cons_zero, List.set_cons_succ, i64_w, i32_w]
     rfl
    refine one_ (i := 5) (N := some 29) #[tt_,tt_,tt_,tt_,tt_,tt_,tt_,tt_,ff_,ff_] rfl rfl (by kernel_rfl) (by decide) (fun K hK => ?_)
    refine goes_ Try.func13 (by kernel_rfl) rfl #[.pointer (some ⟨gM, 0, none⟩), .agg #[.int .i64 u, .int .i64 v, .slice D m dcap]] (by rfl) rfl rfl (by (try simp only [List.map_toArray, List.map_cons, List.map_nil]); rfl) ?_
    refine (roomPlane gM w5x.heap.size u v D m dcap q hs5 ws5 _ RM_6_7_2.out HML.out T_6_7_2.out.size (HLY.out _ T_6_7_2.out) hb5 (by rw [HL5.out]; decide)).mono ?_
    rintro e w_6_7_2_5 ⟨r2, c2, hs6, ws6, rfl, hL, hr, hK, hl, hT, hQ, cl2, hc⟩
    refine ⟨_, rfl, ?_⟩
    have T_6_7_2_5 := Aside0.mk (T_6_7_2.out.trans hT)
    have RM_6_7_2_5 := Aside0.mk (hK)
    have L2_6_7_2_5 := Aside0.mk (hL)
    have K2_6_7_2_5 := Aside0.mk (hc)
    have GR2 := Aside0.mk (Nat.le_trans T_6_7_2.out.size hr)
    have L1_6_7_2_5 := Aside0.mk (show PL w_6_7_2_5 (some ⟨r1, 0, none⟩) n c1 p from ⟨C_at L1_6_7_2.out.1 (hQ r1 _ _ K1_6_7_2.out (.inl rfl)), L1_6_7_2.out.2⟩)
    have K1_6_7_2_5 := Aside0.mk ((hQ r1 _ _ K1_6_7_2.out (.inl rfl)).trans K1_6_7_2.out)
    have Z6_6_7_2_5 := Aside0.mk ((hQ g6 _ _ Z6_6_7_2.out (.inr rfl)).trans Z6_6_7_2.out)
    have Z7_6_7_2_5 := Aside0.mk ((hQ g7 _ _ Z7_6_7_2.out (.inr rfl)).trans Z7_6_7_2.out)
    clear hL hr hK hl hT hQ hc
    refine hK.out _ _ ⟨(blk_cell (HXT.out _ T_6_7_2_5.out) 0).trans rfl, (blk_cell (HXT.out _ T_6_7_2_5.out) 1).trans rfl, (blk_cell (HXT.out _ T_6_7_2_5.out) 2).trans rfl, (blk_cell (HYT.out _ T_6_7_2_5.out) 0).trans rfl, (blk_cell (HYT.out _ T_6_7_2_5.out) 1).trans rfl, (blk_cell (HYT.out _ T_6_7_2_5.out) 2).trans rfl⟩ (fun hHeld => ?_)
    clear hK K
    refine norm_ (a' := ?_) ?_ ?_
    rotate_left
    ·show Act.put _ (some 29) _ = _
     simp only [Act.put, List.setIfInBounds_toArray, List.set_cons_zero, List.set_cons_succ, i64_w, i32_w]
     rfl
    exact norm_ (by rfl) (hCont (r1, c1, cl1, r2, c2, cl2, g6, g7, hs6, ws6) _ ⟨L1_6_7_2_5.out, K1_6_7_2_5.out, L2_6_7_2_5.out, K2_6_7_2_5.out, Z6_6_7_2_5.out, Z7_6_7_2_5.out, ⟨GE6.out, GE7.out, NE67.out, GR1.out, GR2.out⟩, RM_6_7_2_5.out, T_6_7_2_5.out⟩)
  ·skip
   refine alloc_step (cs := #[.int .i64 0, .int .i64 0, .slice none 0 0]) (t := 25) (by rfl) rfl (by first | (go_simp; done) | (go_simp; rfl)) ?_
   intro g7 hg17
   have T_7 := Aside0.mk (But.step T_.out (below_alloc (Below.refl _ w5x) (.cells #[.int .i64 0, .int .i64 0, .slice none 0 0] 25 (0, 0))))
   have RM_7 := Aside0.mk (RM_.out.below (below_alloc (Below.refl _ w5x) (.cells #[.int .i64 0, .int .i64 0, .slice none 0 0] 25 (0, 0))))
   have Z7_7 := Aside0.mk (blk_new w5x (.cells #[.int .i64 0, .int .i64 0, .slice none 0 0] 25 (0, 0)))
   rw [← hg17] at Z7_7
   have GE7 := Aside0.mk (show w5x.heap.size ≤ g7 by rw [hg17]; exact T_.out.size)
   clear hg17
   generalize w5x.alloc (.cells #[.int .i64 0, .int .i64 0, .slice none 0 0] 25 (0, 0)) = w_7 at *
   refine hK.out _ _ ⟨(blk_cell (HXT.out _ T_7.out) 0).trans rfl, (blk_cell (HXT.out _ T_7.out) 1).trans rfl, (blk_cell (HXT.out _ T_7.out) 2).trans rfl, (blk_cell (HYT.out _ T_7.out) 0).trans rfl, (blk_cell (HYT.out _ T_7.out) 1).trans rfl, (blk_cell (HYT.out _ T_7.out) 2).trans rfl⟩ (fun hHeld => ?_)
   clear hK K
   refine norm_ (a' := ?_) ?_ ?_
   rotate_left
   ·show Act.put _ (some 8) _ = _
    simp only [Act.put, List.setIfInBounds_toArray, List.set_cons_zero, List.set_cons_succ, i64_w, i32_w]
    rfl
   refine two_ (i := 2) (j := 6) (Ni := some 26) (Nj := some 7) #[tt_,tt_,tt_,tt_,tt_,ff_,ff_,tt_,ff_,ff_] #[tt_,tt_,ff_,tt_,tt_,ff_,tt_,tt_,ff_,ff_] rfl rfl rfl rfl (by kernel_rfl) (by decide) (by decide) (fun K hK => ?_) (fun K hK => ?_)
   ·skip
    refine goes_ Try.func13 (by kernel_rfl) rfl #[.pointer (some ⟨gM, 0, none⟩), .agg #[.int .i64 x, .int .i64 y, .slice A n cap]] (by rfl) rfl rfl (by (try simp only [List.map_toArray, List.map_cons, List.map_nil]); rfl) ?_
    refine (roomPlane gM w5x.heap.size x y A n cap p [] [] _ RM_7.out HML.out T_7.out.size (HLX.out _ T_7.out) hb4 (Nat.zero_le _)).mono ?_
    rintro e w_7_2 ⟨r1, c1, hs5, ws5, rfl, hL, hr, hK, hl, hT, hQ, cl1, hc⟩
    refine ⟨_, rfl, ?_⟩
    have T_7_2 := Aside0.mk (T_7.out.trans hT)
    have RM_7_2 := Aside0.mk (hK)
    have L1_7_2 := Aside0.mk (hL)
    have K1_7_2 := Aside0.mk (hc)
    have GR1 := Aside0.mk (Nat.le_trans T_7.out.size hr)
    have HL5 := Aside0.mk (hl)
    have Z7_7_2 := Aside0.mk ((hQ g7 _ _ Z7_7.out (.inr rfl)).trans Z7_7.out)
    clear hL hr hK hl hT hQ hc
    refine hK.out _ _ ⟨(blk_cell (HXT.out _ T_7_2.out) 0).trans rfl, (blk_cell (HXT.out _ T_7_2.out) 1).trans rfl, (blk_cell (HXT.out _ T_7_2.out) 2).trans rfl, (blk_cell (HYT.out _ T_7_2.out) 0).trans rfl, (blk_cell (HYT.out _ T_7_2.out) 1).trans rfl, (blk_cell (HYT.out _ T_7_2.out) 2).trans rfl⟩ (fun hHeld => ?_)
    clear hK K
    refine norm_ (a' := ?_) ?_ ?_
    rotate_left
    ·show Act.put _ (some 26) _ = _
     simp only [Act.put, List.setIfInBounds_toArray, List.set_cons_zero, List.set_cons_succ, i64_w, i32_w]
     rfl
    refine two_ (i := 5) (j := 6) (Ni := some 29) (Nj := some 7) #[tt_,tt_,tt_,tt_,tt_,tt_,ff_,tt_,ff_,ff_] #[tt_,tt_,tt_,tt_,tt_,ff_,tt_,tt_,ff_,ff_] rfl rfl rfl rfl (by kernel_rfl) (by decide) (by decide) (fun K hK => ?_) (fun K hK => ?_)
    ·skip
     refine goes_ Try.func13 (by kernel_rfl) rfl #[.pointer (some ⟨gM, 0, none⟩), .agg #[.int .i64 u, .int .i64 v, .slice D m dcap]] (by rfl) rfl rfl (by (try simp only [List.map_toArray, List.map_cons, List.map_nil]); rfl) ?_
     refine (roomPlane gM w5x.heap.size u v D m dcap q hs5 ws5 _ RM_7_2.out HML.out T_7_2.out.size (HLY.out _ T_7_2.out) hb5 (by rw [HL5.out]; decide)).mono ?_
     rintro e w_7_2_5 ⟨r2, c2, hs6, ws6, rfl, hL, hr, hK, hl, hT, hQ, cl2, hc⟩
     refine ⟨_, rfl, ?_⟩
     have T_7_2_5 := Aside0.mk (T_7_2.out.trans hT)
     have RM_7_2_5 := Aside0.mk (hK)
     have L2_7_2_5 := Aside0.mk (hL)
     have K2_7_2_5 := Aside0.mk (hc)
     have GR2 := Aside0.mk (Nat.le_trans T_7_2.out.size hr)
     have L1_7_2_5 := Aside0.mk (show PL w_7_2_5 (some ⟨r1, 0, none⟩) n c1 p from ⟨C_at L1_7_2.out.1 (hQ r1 _ _ K1_7_2.out (.inl rfl)), L1_7_2.out.2⟩)
     have K1_7_2_5 := Aside0.mk ((hQ r1 _ _ K1_7_2.out (.inl rfl)).trans K1_7_2.out)
     have Z7_7_2_5 := Aside0.mk ((hQ g7 _ _ Z7_7_2.out (.inr rfl)).trans Z7_7_2.out)
     clear hL hr hK hl hT hQ hc
     refine hK.out _ _ ⟨(blk_cell (HXT.out _ T_7_2_5.out) 0).trans rfl, (blk_cell (HXT.out _ T_7_2_5.out) 1).trans rfl, (blk_cell (HXT.out _ T_7_2_5.out) 2).trans rfl, (blk_cell (HYT.out _ T_7_2_5.out) 0).trans rfl, (blk_cell (HYT.out _ T_7_2_5.out) 1).trans rfl, (blk_cell (HYT.out _ T_7_2_5.out) 2).trans rfl⟩ (fun hHeld => ?_)
     clear hK K
     refine norm_ (a' := ?_) ?_ ?_
     rotate_left
     ·show Act.put _ (some 29) _ = _
      simp only [Act.put, List.setIfInBounds_toArray, List.set_cons_zero, List.set_cons_succ, i64_w, i32_w]
      rfl
     refine one_ (i := 6) (N := some 7) #[tt_,tt_,tt_,tt_,tt_,tt_,tt_,tt_,ff_,ff_] rfl rfl (by kernel_rfl) (by decide) (fun K hK => ?_)
     refine alloc_step (cs := #[.int .i64 0, .int .i64 0, .slice none 0 0]) (t := 25) (by rfl) rfl (by first | (go_simp; done) | (go_simp; rfl)) ?_
     intro g6 hg17
     have T_7_2_5_6 := Aside0.mk (But.step T_7_2_5.out (below_alloc (Below.refl _ w_7_2_5) (.cells #[.int .i64 0, .int .i64 0, .slice none 0 0] 25 (0, 0))))
     have RM_7_2_5_6 := Aside0.mk (RM_7_2_5.out.below (below_alloc (Below.refl _ w_7_2_5) (.cells #[.int .i64 0, .int .i64 0, .slice none 0 0] 25 (0, 0))))
     have Z6_7_2_5_6 := Aside0.mk (blk_new w_7_2_5 (.cells #[.int .i64 0, .int .i64 0, .slice none 0 0] 25 (0, 0)))
     rw [← hg17] at Z6_7_2_5_6
     have GE6 := Aside0.mk (show w5x.heap.size ≤ g6 by rw [hg17]; exact T_7_2_5.out.size)
     have Z7_7_2_5_6 := Aside0.mk (blk_below Z7_7_2_5.out (below_alloc (Below.refl _ w_7_2_5) (.cells #[.int .i64 0, .int .i64 0, .slice none 0 0] 25 (0, 0))))
     have NE67 := Aside0.mk (show g6 ≠ g7 by have := blk_lt Z7_7_2_5.out; omega)
     have L1_7_2_5_6 := Aside0.mk (L1_7_2_5.out.below (below_alloc (Below.refl _ w_7_2_5) (.cells #[.int .i64 0, .int .i64 0, .slice none 0 0] 25 (0, 0))))
     have K1_7_2_5_6 := Aside0.mk (blk_below K1_7_2_5.out (below_alloc (Below.refl _ w_7_2_5) (.cells #[.int .i64 0, .int .i64 0, .slice none 0 0] 25 (0, 0))))
     have L2_7_2_5_6 := Aside0.mk (L2_7_2_5.out.below (below_alloc (Below.refl _ w_7_2_5) (.cells #[.int .i64 0, .int .i64 0, .slice none 0 0] 25 (0, 0))))
     have K2_7_2_5_6 := Aside0.mk (blk_below K2_7_2_5.out (below_alloc (Below.refl _ w_7_2_5) (.cells #[.int .i64 0, .int .i64 0, .slice none 0 0] 25 (0, 0))))
     clear hg17
     generalize w_7_2_5.alloc (.cells #[.int .i64 0, .int .i64 0, .slice none 0 0] 25 (0, 0)) = w_7_2_5_6 at *
     refine hK.out _ _ ⟨(blk_cell (HXT.out _ T_7_2_5_6.out) 0).trans rfl, (blk_cell (HXT.out _ T_7_2_5_6.out) 1).trans rfl, (blk_cell (HXT.out _ T_7_2_5_6.out) 2).trans rfl, (blk_cell (HYT.out _ T_7_2_5_6.out) 0).trans rfl, (blk_cell (HYT.out _ T_7_2_5_6.out) 1).trans rfl, (blk_cell (HYT.out _ T_7_2_5_6.out) 2).trans rfl⟩ (fun hHeld => ?_)
     clear hK K
     refine norm_ (a' := ?_) ?_ ?_
     rotate_left
     ·show Act.put _ (some 7) _ = _
      simp only [Act.put, List.setIfInBounds_toArray, List.set_cons_zero, List.set_cons_succ, i64_w, i32_w]
      rfl
     exact norm_ (by rfl) (hCont (r1, c1, cl1, r2, c2, cl2, g6, g7, hs6, ws6) _ ⟨L1_7_2_5_6.out, K1_7_2_5_6.out, L2_7_2_5_6.out, K2_7_2_5_6.out, Z6_7_2_5_6.out, Z7_7_2_5_6.out, ⟨GE6.out, GE7.out, NE67.out, GR1.out, GR2.out⟩, RM_7_2_5_6.out, T_7_2_5_6.out⟩)
    ·skip
     refine alloc_step (cs := #[.int .i64 0, .int .i64 0, .slice none 0 0]) (t := 25) (by rfl) rfl (by first | (go_simp; done) | (go_simp; rfl)) ?_
     intro g6 hg17
     have T_7_2_6 := Aside0.mk (But.step T_7_2.out (below_alloc (Below.refl _ w_7_2) (.cells #[.int .i64 0, .int .i64 0, .slice none 0 0] 25 (0, 0))))
     have RM_7_2_6 := Aside0.mk (RM_7_2.out.below (below_alloc (Below.refl _ w_7_2) (.cells #[.int .i64 0, .int .i64 0, .slice none 0 0] 25 (0, 0))))
     have Z6_7_2_6 := Aside0.mk (blk_new w_7_2 (.cells #[.int .i64 0, .int .i64 0, .slice none 0 0] 25 (0, 0)))
     rw [← hg17] at Z6_7_2_6
     have GE6 := Aside0.mk (show w5x.heap.size ≤ g6 by rw [hg17]; exact T_7_2.out.size)
     have Z7_7_2_6 := Aside0.mk (blk_below Z7_7_2.out (below_alloc (Below.refl _ w_7_2) (.cells #[.int .i64 0, .int .i64 0, .slice none 0 0] 25 (0, 0))))
     have NE67 := Aside0.mk (show g6 ≠ g7 by have := blk_lt Z7_7_2.out; omega)
     have L1_7_2_6 := Aside0.mk (L1_7_2.out.below (below_alloc (Below.refl _ w_7_2) (.cells #[.int .i64 0, .int .i64 0, .slice none 0 0] 25 (0, 0))))
     have K1_7_2_6 := Aside0.mk (blk_below K1_7_2.out (below_alloc (Below.refl _ w_7_2) (.cells #[.int .i64 0, .int .i64 0, .slice none 0 0] 25 (0, 0))))
     clear hg17
     generalize w_7_2.alloc (.cells #[.int .i64 0, .int .i64 0, .slice none 0 0] 25 (0, 0)) = w_7_2_6 at *
     refine hK.out _ _ ⟨(blk_cell (HXT.out _ T_7_2_6.out) 0).trans rfl, (blk_cell (HXT.out _ T_7_2_6.out) 1).trans rfl, (blk_cell (HXT.out _ T_7_2_6.out) 2).trans rfl, (blk_cell (HYT.out _ T_7_2_6.out) 0).trans rfl, (blk_cell (HYT.out _ T_7_2_6.out) 1).trans rfl, (blk_cell (HYT.out _ T_7_2_6.out) 2).trans rfl⟩ (fun hHeld => ?_)
     clear hK K
     refine norm_ (a' := ?_) ?_ ?_
     rotate_left
     ·show Act.put _ (some 7) _ = _
      simp only [Act.put, List.setIfInBounds_toArray, List.set_cons_zero, List.set_cons_succ, i64_w, i32_w]
      rfl
     refine one_ (i := 5) (N := some 29) #[tt_,tt_,tt_,tt_,tt_,tt_,tt_,tt_,ff_,ff_] rfl rfl (by kernel_rfl) (by decide) (fun K hK => ?_)
     refine goes_ Try.func13 (by kernel_rfl) rfl #[.pointer (some ⟨gM, 0, none⟩), .agg #[.int .i64 u, .int .i64 v, .slice D m dcap]] (by rfl) rfl rfl (by (try simp only [List.map_toArray, List.map_cons, List.map_nil]); rfl) ?_
     refine (roomPlane gM w5x.heap.size u v D m dcap q hs5 ws5 _ RM_7_2_6.out HML.out T_7_2_6.out.size (HLY.out _ T_7_2_6.out) hb5 (by rw [HL5.out]; decide)).mono ?_
     rintro e w_7_2_6_5 ⟨r2, c2, hs6, ws6, rfl, hL, hr, hK, hl, hT, hQ, cl2, hc⟩
     refine ⟨_, rfl, ?_⟩
     have T_7_2_6_5 := Aside0.mk (T_7_2_6.out.trans hT)
     have RM_7_2_6_5 := Aside0.mk (hK)
     have L2_7_2_6_5 := Aside0.mk (hL)
     have K2_7_2_6_5 := Aside0.mk (hc)
     have GR2 := Aside0.mk (Nat.le_trans T_7_2_6.out.size hr)
     have L1_7_2_6_5 := Aside0.mk (show PL w_7_2_6_5 (some ⟨r1, 0, none⟩) n c1 p from ⟨C_at L1_7_2_6.out.1 (hQ r1 _ _ K1_7_2_6.out (.inl rfl)), L1_7_2_6.out.2⟩)
     have K1_7_2_6_5 := Aside0.mk ((hQ r1 _ _ K1_7_2_6.out (.inl rfl)).trans K1_7_2_6.out)
     have Z6_7_2_6_5 := Aside0.mk ((hQ g6 _ _ Z6_7_2_6.out (.inr rfl)).trans Z6_7_2_6.out)
     have Z7_7_2_6_5 := Aside0.mk ((hQ g7 _ _ Z7_7_2_6.out (.inr rfl)).trans Z7_7_2_6.out)
     clear hL hr hK hl hT hQ hc
     refine hK.out _ _ ⟨(blk_cell (HXT.out _ T_7_2_6_5.out) 0).trans rfl, (blk_cell (HXT.out _ T_7_2_6_5.out) 1).trans rfl, (blk_cell (HXT.out _ T_7_2_6_5.out) 2).trans rfl, (blk_cell (HYT.out _ T_7_2_6_5.out) 0).trans rfl, (blk_cell (HYT.out _ T_7_2_6_5.out) 1).trans rfl, (blk_cell (HYT.out _ T_7_2_6_5.out) 2).trans rfl⟩ (fun hHeld => ?_)
     clear hK K
     refine norm_ (a' := ?_) ?_ ?_
     rotate_left
     ·show Act.put _ (some 29) _ = _
      simp only [Act.put, List.setIfInBounds_toArray, List.set_cons_zero, List.set_cons_succ, i64_w, i32_w]
      rfl
     exact norm_ (by rfl) (hCont (r1, c1, cl1, r2, c2, cl2, g6, g7, hs6, ws6) _ ⟨L1_7_2_6_5.out, K1_7_2_6_5.out, L2_7_2_6_5.out, K2_7_2_6_5.out, Z6_7_2_6_5.out, Z7_7_2_6_5.out, ⟨GE6.out, GE7.out, NE67.out, GR1.out, GR2.out⟩, RM_7_2_6_5.out, T_7_2_6_5.out⟩)
   ·skip
    refine alloc_step (cs := #[.int .i64 0, .int .i64 0, .slice none 0 0]) (t := 25) (by rfl) rfl (by first | (go_simp; done) | (go_simp; rfl)) ?_
    intro g6 hg17
    have T_7_6 := Aside0.mk (But.step T_7.out (below_alloc (Below.refl _ w_7) (.cells #[.int .i64 0, .int .i64 0, .slice none 0 0] 25 (0, 0))))
    have RM_7_6 := Aside0.mk (RM_7.out.below (below_alloc (Below.refl _ w_7) (.cells #[.int .i64 0, .int .i64 0, .slice none 0 0] 25 (0, 0))))
    have Z6_7_6 := Aside0.mk (blk_new w_7 (.cells #[.int .i64 0, .int .i64 0, .slice none 0 0] 25 (0, 0)))
    rw [← hg17] at Z6_7_6
    have GE6 := Aside0.mk (show w5x.heap.size ≤ g6 by rw [hg17]; exact T_7.out.size)
    have Z7_7_6 := Aside0.mk (blk_below Z7_7.out (below_alloc (Below.refl _ w_7) (.cells #[.int .i64 0, .int .i64 0, .slice none 0 0] 25 (0, 0))))
    have NE67 := Aside0.mk (show g6 ≠ g7 by have := blk_lt Z7_7.out; omega)
    clear hg17
    generalize w_7.alloc (.cells #[.int .i64 0, .int .i64 0, .slice none 0 0] 25 (0, 0)) = w_7_6 at *
    refine hK.out _ _ ⟨(blk_cell (HXT.out _ T_7_6.out) 0).trans rfl, (blk_cell (HXT.out _ T_7_6.out) 1).trans rfl, (blk_cell (HXT.out _ T_7_6.out) 2).trans rfl, (blk_cell (HYT.out _ T_7_6.out) 0).trans rfl, (blk_cell (HYT.out _ T_7_6.out) 1).trans rfl, (blk_cell (HYT.out _ T_7_6.out) 2).trans rfl⟩ (fun hHeld => ?_)
    clear hK K
    refine norm_ (a' := ?_) ?_ ?_
    rotate_left
    ·show Act.put _ (some 7) _ = _
     simp only [Act.put, List.setIfInBounds_toArray, List.set_cons_zero, List.set_cons_succ, i64_w, i32_w]
     rfl
    refine one_ (i := 2) (N := some 26) #[tt_,tt_,tt_,tt_,tt_,ff_,tt_,tt_,ff_,ff_] rfl rfl (by kernel_rfl) (by decide) (fun K hK => ?_)
    refine goes_ Try.func13 (by kernel_rfl) rfl #[.pointer (some ⟨gM, 0, none⟩), .agg #[.int .i64 x, .int .i64 y, .slice A n cap]] (by rfl) rfl rfl (by (try simp only [List.map_toArray, List.map_cons, List.map_nil]); rfl) ?_
    refine (roomPlane gM w5x.heap.size x y A n cap p [] [] _ RM_7_6.out HML.out T_7_6.out.size (HLX.out _ T_7_6.out) hb4 (Nat.zero_le _)).mono ?_
    rintro e w_7_6_2 ⟨r1, c1, hs5, ws5, rfl, hL, hr, hK, hl, hT, hQ, cl1, hc⟩
    refine ⟨_, rfl, ?_⟩
    have T_7_6_2 := Aside0.mk (T_7_6.out.trans hT)
    have RM_7_6_2 := Aside0.mk (hK)
    have L1_7_6_2 := Aside0.mk (hL)
    have K1_7_6_2 := Aside0.mk (hc)
    have GR1 := Aside0.mk (Nat.le_trans T_7_6.out.size hr)
    have HL5 := Aside0.mk (hl)
    have Z6_7_6_2 := Aside0.mk ((hQ g6 _ _ Z6_7_6.out (.inr rfl)).trans Z6_7_6.out)
    have Z7_7_6_2 := Aside0.mk ((hQ g7 _ _ Z7_7_6.out (.inr rfl)).trans Z7_7_6.out)
    clear hL hr hK hl hT hQ hc
    refine hK.out _ _ ⟨(blk_cell (HXT.out _ T_7_6_2.out) 0).trans rfl, (blk_cell (HXT.out _ T_7_6_2.out) 1).trans rfl, (blk_cell (HXT.out _ T_7_6_2.out) 2).trans rfl, (blk_cell (HYT.out _ T_7_6_2.out) 0).trans rfl, (blk_cell (HYT.out _ T_7_6_2.out) 1).trans rfl, (blk_cell (HYT.out _ T_7_6_2.out) 2).trans rfl⟩ (fun hHeld => ?_)
    clear hK K
    refine norm_ (a' := ?_) ?_ ?_
    rotate_left
    ·show Act.put _ (some 26) _ = _
     simp only [Act.put, List.setIfInBounds_toArray, List.set_cons_zero, List.set_cons_succ, i64_w, i32_w]
     rfl
    refine one_ (i := 5) (N := some 29) #[tt_,tt_,tt_,tt_,tt_,tt_,tt_,tt_,ff_,ff_] rfl rfl (by kernel_rfl) (by decide) (fun K hK => ?_)
    refine goes_ Try.func13 (by kernel_rfl) rfl #[.pointer (some ⟨gM, 0, none⟩), .agg #[.int .i64 u, .int .i64 v, .slice D m dcap]] (by rfl) rfl rfl (by (try simp only [List.map_toArray, List.map_cons, List.map_nil]); rfl) ?_
    refine (roomPlane gM w5x.heap.size u v D m dcap q hs5 ws5 _ RM_7_6_2.out HML.out T_7_6_2.out.size (HLY.out _ T_7_6_2.out) hb5 (by rw [HL5.out]; decide)).mono ?_
    rintro e w_7_6_2_5 ⟨r2, c2, hs6, ws6, rfl, hL, hr, hK, hl, hT, hQ, cl2, hc⟩
    refine ⟨_, rfl, ?_⟩
    have T_7_6_2_5 := Aside0.mk (T_7_6_2.out.trans hT)
    have RM_7_6_2_5 := Aside0.mk (hK)
    have L2_7_6_2_5 := Aside0.mk (hL)
    have K2_7_6_2_5 := Aside0.mk (hc)
    have GR2 := Aside0.mk (Nat.le_trans T_7_6_2.out.size hr)
    have L1_7_6_2_5 := Aside0.mk (show PL w_7_6_2_5 (some ⟨r1, 0, none⟩) n c1 p from ⟨C_at L1_7_6_2.out.1 (hQ r1 _ _ K1_7_6_2.out (.inl rfl)), L1_7_6_2.out.2⟩)
    have K1_7_6_2_5 := Aside0.mk ((hQ r1 _ _ K1_7_6_2.out (.inl rfl)).trans K1_7_6_2.out)
    have Z6_7_6_2_5 := Aside0.mk ((hQ g6 _ _ Z6_7_6_2.out (.inr rfl)).trans Z6_7_6_2.out)
    have Z7_7_6_2_5 := Aside0.mk ((hQ g7 _ _ Z7_7_6_2.out (.inr rfl)).trans Z7_7_6_2.out)
    clear hL hr hK hl hT hQ hc
    refine hK.out _ _ ⟨(blk_cell (HXT.out _ T_7_6_2_5.out) 0).trans rfl, (blk_cell (HXT.out _ T_7_6_2_5.out) 1).trans rfl, (blk_cell (HXT.out _ T_7_6_2_5.out) 2).trans rfl, (blk_cell (HYT.out _ T_7_6_2_5.out) 0).trans rfl, (blk_cell (HYT.out _ T_7_6_2_5.out) 1).trans rfl, (blk_cell (HYT.out _ T_7_6_2_5.out) 2).trans rfl⟩ (fun hHeld => ?_)
    clear hK K
    refine norm_ (a' := ?_) ?_ ?_
    rotate_left
    ·show Act.put _ (some 29) _ = _
     simp only [Act.put, List.setIfInBounds_toArray, List.set_cons_zero, List.set_cons_succ, i64_w, i32_w]
     rfl
    exact norm_ (by rfl) (hCont (r1, c1, cl1, r2, c2, cl2, g6, g7, hs6, ws6) _ ⟨L1_7_6_2_5.out, K1_7_6_2_5.out, L2_7_6_2_5.out, K2_7_6_2_5.out, Z6_7_6_2_5.out, Z7_7_6_2_5.out, ⟨GE6.out, GE7.out, NE67.out, GR1.out, GR2.out⟩, RM_7_6_2_5.out, T_7_6_2_5.out⟩)
 rintro ⟨r1, c1, cl1, r2, c2, cl2, g6, g7, hs6, ws6⟩ w50 ⟨h1, h2, h3, h4, h5, h6, h7, h8, h9⟩
 simp only at h1 h2 h3 h4 h5 h6 h7 h8
 have L1_50 := Aside0.mk (h1)
 have K1_50 := Aside0.mk (h2)
 have L2_50 := Aside0.mk (h3)
 have K2_50 := Aside0.mk (h4)
 have Z6_50 := Aside0.mk (h5)
 have Z7_50 := Aside0.mk (h6)
 have GG := Aside0.mk (h7)
 have RM_50 := Aside0.mk (h8)
 have T_50 := Aside0.mk (h9)
 have hHeld : w50.cell? ⟨gX, 0, none⟩ = some (.int .i64 x) ∧ w50.cell? ⟨gX, 1, none⟩ = some (.int .i64 y) ∧ w50.cell? ⟨gX, 2, none⟩ = some (.slice A n cap) ∧ w50.cell? ⟨gY, 0, none⟩ = some (.int .i64 u) ∧ w50.cell? ⟨gY, 1, none⟩ = some (.int .i64 v) ∧ w50.cell? ⟨gY, 2, none⟩ = some (.slice D m dcap) := ⟨(blk_cell (HXT.out _ T_50.out) 0).trans rfl, (blk_cell (HXT.out _ T_50.out) 1).trans rfl, (blk_cell (HXT.out _ T_50.out) 2).trans rfl, (blk_cell (HYT.out _ T_50.out) 0).trans rfl, (blk_cell (HYT.out _ T_50.out) 1).trans rfl, (blk_cell (HYT.out _ T_50.out) 2).trans rfl⟩
 clear h1 h2 h3 h4 h5 h6 h7 h8 h9
 refine norm_ (a' := ?_) ?_ ?_
 rotate_left
 ·simp only [YtodlgdpkadkjjaaW.PrintLast.putAll, Act.put, List.setIfInBounds_toArray, List.set_cons_zero, List.set_cons_succ]
  rfl
 refine one_ (i := 8) (N := none) #[tt_,tt_,tt_,tt_,tt_,tt_,tt_,tt_,tt_,ff_] rfl rfl (by kernel_rfl) (by decide) (fun K hK => ?_)
 refine storeP_step (by rfl) rfl rfl g6 x y (some ⟨r1, 0, none⟩) n c1 _ _ _ rfl rfl Z6_50.out ?_
 intro w51 hm_ hst_ hbl_
 have L1_51 := Aside0.mk (L1_50.out.st K1_50.out Z6_50.out hst_)
 have L2_51 := Aside0.mk (L2_50.out.st K2_50.out Z6_50.out hst_)
 have K1_51 := Aside0.mk ((hst_ _ (blk_ne K1_50.out Z6_50.out (by decide))).trans K1_50.out)
 have K2_51 := Aside0.mk ((hst_ _ (blk_ne K2_50.out Z6_50.out (by decide))).trans K2_50.out)
 have Z7_51 := Aside0.mk ((hst_ _ GG.out.2.2.1.symm).trans Z7_50.out)
 have Z6_51 := Aside0.mk (hm_)
 have RM_51 := Aside0.mk (RM_50.out.st Z6_50.out hst_)
 have T_51 := Aside0.mk (T_50.out.trans (.of_below (hbl_ _ GG.out.1)))
 clear hm_ hst_ hbl_
 refine hK.out _ _ ⟨(blk_cell (HXT.out _ T_51.out) 0).trans rfl, (blk_cell (HXT.out _ T_51.out) 1).trans rfl, (blk_cell (HXT.out _ T_51.out) 2).trans rfl, (blk_cell (HYT.out _ T_51.out) 0).trans rfl, (blk_cell (HYT.out _ T_51.out) 1).trans rfl, (blk_cell (HYT.out _ T_51.out) 2).trans rfl⟩ (fun hHeld => ?_)
 clear hK K
 refine last_ (i := 9) (N := none) #[tt_,tt_,tt_,tt_,tt_,tt_,tt_,tt_,tt_,tt_] rfl rfl (by kernel_rfl) (by decide) (fun K hK => ?_)
 refine storeP_step (by rfl) rfl rfl g7 u v (some ⟨r2, 0, none⟩) m c2 _ _ _ rfl rfl Z7_51.out ?_
 intro w52 hm_ hst_ hbl_
 have L1_52 := Aside0.mk (L1_51.out.st K1_51.out Z7_51.out hst_)
 have L2_52 := Aside0.mk (L2_51.out.st K2_51.out Z7_51.out hst_)
 have K1_52 := Aside0.mk ((hst_ _ (blk_ne K1_51.out Z7_51.out (by decide))).trans K1_51.out)
 have K2_52 := Aside0.mk ((hst_ _ (blk_ne K2_51.out Z7_51.out (by decide))).trans K2_51.out)
 have Z6_52 := Aside0.mk ((hst_ _ GG.out.2.2.1).trans Z6_51.out)
 have Z7_52 := Aside0.mk (hm_)
 have RM_52 := Aside0.mk (RM_51.out.st Z7_51.out hst_)
 have T_52 := Aside0.mk (T_51.out.trans (.of_below (hbl_ _ GG.out.2.1)))
 clear hm_ hst_ hbl_
 refine hK.out _ _ ?_
 clear hK K
 refine done_ (by kernel_rfl) ?_
 clear hHeld
 have B_60 : Aside0 (Below w.heap.size w w52) := ⟨BQ.out.trans (T_52.out.below BQ.out.size HGM.out)⟩
 have DX_60 := Aside0.mk (HXT.out _ T_52.out)
 have DY_60 := Aside0.mk (HYT.out _ T_52.out)
 have DK_60 := Aside0.mk (HKT.out _ T_52.out)
 have DE_60 := Z6_52
 have DG_60 := Z7_52
 have Lx_60 := Aside0.mk (HLX.out _ T_52.out)
 have Ly_60 := Aside0.mk (HLY.out _ T_52.out)
 have Ll_60 := L1_52
 have Lo_60 := L2_52
 have RM_60 := RM_52
 have HRK : Aside0 (r1 ≠ gK ∧ r2 ≠ gK) := ⟨by have := HKL.out; have := GG.out; omega⟩
 have SZ5 : Aside0 (w5x.heap.size ≤ w52.heap.size) := ⟨T_52.out.size⟩
 clear Z6_50 Z7_50 Z6_51 Z7_51 Z6_52 Z7_52 L1_50 L1_51 L1_52 L2_50 L2_51 L2_52 K1_50 K1_51 K1_52 K2_50 K2_51 K2_52 RM_50 RM_51 RM_52 T_50 T_51 T_52 HXT HYT HKT HLX HLY T_ RM_
 generalize w52 = w60 at *
 go_wp2_with (first | ((with_reducible refine gate_store (p := 12) rfl ?_); refine storeP_event rfl rfl rfl g12 bx by_ A10 n10 c10 _ _ _ rfl rfl ZBb.out ?_; intro w64 hm_ hst_ hbl_; have BL63_2 := Aside0.mk (BL63_1.out.trans (hbl_ _ GGBb.out)); have ZBb_ := Aside0.mk hm_; have B_64 := Aside0.mk (below_step B_63.out BL63_2.out); have DX_64 := Aside0.mk (blk_below DX_63.out BL63_2.out); have DY_64 := Aside0.mk (blk_below DY_63.out BL63_2.out); have DE_64 := Aside0.mk (blk_below DE_63.out BL63_2.out); have DG_64 := Aside0.mk (blk_below DG_63.out BL63_2.out); have DA_64 := Aside0.mk (blk_below DA_63.out BL63_2.out); have DFf_64 := Aside0.mk (blk_below DFf_63.out BL63_2.out); have Lx_64 := Aside0.mk (Lx_63.out.below BL63_2.out); have Ly_64 := Aside0.mk (Ly_63.out.below BL63_2.out); have Ll_64 := Aside0.mk (Ll_63.out.below BL63_2.out); have Lo_64 := Aside0.mk (Lo_63.out.below BL63_2.out); have La_64 := Aside0.mk (La_63.out.below BL63_2.out); have Lf_64 := Aside0.mk (Lf_63.out.below BL63_2.out); have Lb_64 := Aside0.mk (Lb_63.out.below BL63_2.out); have DK_64 := Aside0.mk (blk_below DK_63.out BL63_2.out); have RM_64 := Aside0.mk (RmS.below RM_63.out BL63_2.out); clear DX_63 DY_63 DE_63 DG_63 DA_63 DFf_63 Lx_63 Ly_63 Ll_63 Lo_63 La_63 Lf_63 Lb_63 DK_63 RM_63; have DBb_64 := Aside0.mk (ZBb_.out); clear ZBb_ ZBb BL63_1 BL63_2; clear hm_ hst_ hbl_) | ((with_reducible refine gate_dst (N := 12) rfl ?_); refine box_event ?hg (N := 12) ?hd (cs := #[.int .i64 0, .int .i64 0, .slice none 0 0]) (t := 25) ?hr ?_; (case hd => rfl); (case hg => rfl); (case hr => first | (go_simp; done) | (go_simp; rfl)); intro g12 hg_ w63_1 hm_ hb_; have BL63_1 := Aside0.mk (hb_); have ZBb := Aside0.mk (hm_); have GGBb := Aside0.mk (show w63.heap.size ≤ g12 by rw [hg_]; exact Nat.le_refl _); clear hm_ hb_ hg_) | (go_at_call 32; have hkey := B_62; clear hkey; refine (Out_as (rJoin_any Lx_62.out HPX.out Ly_62.out HQX.out) HOB.out).mono ?_; rintro e w63 ⟨A10, n10, c10, rfl, hO, hn_, hL, hb⟩; have NB := Aside0.mk (hO.ne (show gK < w62.heap.size from blk_lt DK_62.out)); clear hO hn_; have B_63 := Aside0.mk (below_step B_62.out hb); have DX_63 := Aside0.mk (blk_below DX_62.out hb); have DY_63 := Aside0.mk (blk_below DY_62.out hb); have DE_63 := Aside0.mk (blk_below DE_62.out hb); have DG_63 := Aside0.mk (blk_below DG_62.out hb); have DA_63 := Aside0.mk (blk_below DA_62.out hb); have DFf_63 := Aside0.mk (blk_below DFf_62.out hb); have Lx_63 := Aside0.mk (Lx_62.out.below hb); have Ly_63 := Aside0.mk (Ly_62.out.below hb); have Ll_63 := Aside0.mk (Ll_62.out.below hb); have Lo_63 := Aside0.mk (Lo_62.out.below hb); have La_63 := Aside0.mk (La_62.out.below hb); have Lf_63 := Aside0.mk (Lf_62.out.below hb); have DK_63 := Aside0.mk (blk_below DK_62.out hb); have RM_63 := Aside0.mk (RmS.below RM_62.out hb); clear DX_62 DY_62 DE_62 DG_62 DA_62 DFf_62 Lx_62 Ly_62 Ll_62 Lo_62 La_62 Lf_62 DK_62 RM_62; have Lb_63 := Aside0.mk (hL); clear hb hL) | ((with_reducible refine gate_dst (N := 38) rfl ?_); refine loadP_g rfl ?hw gY _ _ _ rfl DY_62.out ?_; (case hw => rfl)) | ((with_reducible refine gate_dst (N := 37) rfl ?_); refine loadP_g rfl ?hw gX _ _ _ rfl DX_62.out ?_; (case hw => rfl)) | ((with_reducible refine gate_store (p := 10) rfl ?_); refine storeP_event rfl rfl rfl g10 fx fy A9 n9 c9 _ _ _ rfl rfl ZFf.out ?_; intro w62 hm_ hst_ hbl_; have BL61_4 := Aside0.mk (BL61_3.out.trans (hbl_ _ GGFf.out)); have ZFf_ := Aside0.mk hm_; have ZA_ := Aside0.mk ((hst_ g9 NEAFf.out).trans ZA_.out); have B_62 := Aside0.mk (below_step B_61.out BL61_4.out); have DX_62 := Aside0.mk (blk_below DX_61.out BL61_4.out); have DY_62 := Aside0.mk (blk_below DY_61.out BL61_4.out); have DE_62 := Aside0.mk (blk_below DE_61.out BL61_4.out); have DG_62 := Aside0.mk (blk_below DG_61.out BL61_4.out); have Lx_62 := Aside0.mk (Lx_61.out.below BL61_4.out); have Ly_62 := Aside0.mk (Ly_61.out.below BL61_4.out); have Ll_62 := Aside0.mk (Ll_61.out.below BL61_4.out); have Lo_62 := Aside0.mk (Lo_61.out.below BL61_4.out); have La_62 := Aside0.mk (La_61.out.below BL61_4.out); have Lf_62 := Aside0.mk (Lf_61.out.below BL61_4.out); have DK_62 := Aside0.mk (blk_below DK_61.out BL61_4.out); have RM_62 := Aside0.mk (RmS.below RM_61.out BL61_4.out); clear DX_61 DY_61 DE_61 DG_61 Lx_61 Ly_61 Ll_61 Lo_61 La_61 Lf_61 DK_61 RM_61; have DA_62 := Aside0.mk (ZA_.out); have DFf_62 := Aside0.mk (ZFf_.out); clear ZA_ ZA ZFf_ ZFf BL61_1 BL61_2 BL61_3 BL61_4; clear hm_ hst_ hbl_) | ((with_reducible refine gate_store (p := 9) rfl ?_); refine storeP_event rfl rfl rfl g9 ax ay A8 n8 c8 _ _ _ rfl rfl ZA.out ?_; intro w61_3 hm_ hst_ hbl_; have BL61_3 := Aside0.mk (BL61_2.out.trans (hbl_ _ GGA.out)); have ZA_ := Aside0.mk hm_; have ZFf := Aside0.mk ((hst_ g10 NEAFf.out.symm).trans ZFf.out); clear hm_ hst_ hbl_) | ((with_reducible refine gate_dst (N := 10) rfl ?_); refine box_event ?hg (N := 10) ?hd (cs := #[.int .i64 0, .int .i64 0, .slice none 0 0]) (t := 25) ?hr ?_; (case hd => rfl); (case hg => rfl); (case hr => first | (go_simp; done) | (go_simp; rfl)); intro g10 hg_ w61_2 hm_ hb_; have BL61_2 := Aside0.mk (BL61_1.out.trans (hb_.mono BL61_1.out.size)); have ZFf := Aside0.mk (hm_); have GGFf := Aside0.mk (show w61.heap.size ≤ g10 by rw [hg_]; exact BL61_1.out.size); have NEAFf := Aside0.mk (show g9 ≠ g10 by rw [hg_]; have := blk_lt ZA.out; omega); have ZA := Aside0.mk (blk_below ZA.out hb_); clear hm_ hb_ hg_) | ((with_reducible refine gate_dst (N := 9) rfl ?_); refine box_event ?hg (N := 9) ?hd (cs := #[.int .i64 0, .int .i64 0, .slice none 0 0]) (t := 25) ?hr ?_; (case hd => rfl); (case hg => rfl); (case hr => first | (go_simp; done) | (go_simp; rfl)); intro g9 hg_ w61_1 hm_ hb_; have BL61_1 := Aside0.mk (hb_); have ZA := Aside0.mk (hm_); have GGA := Aside0.mk (show w61.heap.size ≤ g9 by rw [hg_]; exact Nat.le_refl _); clear hm_ hb_ hg_) | (go_at_call 31; have hkey := B_60; clear hkey; refine (Out2r_as (rSplit_any Lx_60.out HPX.out) HOA.out HOF.out).mono ?_; rintro e w61 ⟨A8, n8, c8, A9, n9, c9, rfl, hO, hO2, hb⟩; have NA := Aside0.mk (hO.ne (show gK < w60.heap.size from blk_lt DK_60.out)); have NF := Aside0.mk (hO2.ne (show gK < w60.heap.size from blk_lt DK_60.out)); have hL := hO.asPL; have hL2 := hO2.asPL; clear hO hO2; have B_61 := Aside0.mk (below_step B_60.out hb); have DX_61 := Aside0.mk (blk_below DX_60.out hb); have DY_61 := Aside0.mk (blk_below DY_60.out hb); have DE_61 := Aside0.mk (blk_below DE_60.out hb); have DG_61 := Aside0.mk (blk_below DG_60.out hb); have Lx_61 := Aside0.mk (Lx_60.out.below hb); have Ly_61 := Aside0.mk (Ly_60.out.below hb); have Ll_61 := Aside0.mk (Ll_60.out.below hb); have Lo_61 := Aside0.mk (Lo_60.out.below hb); have DK_61 := Aside0.mk (blk_below DK_60.out hb); have RM_61 := Aside0.mk (RmS.below RM_60.out hb); clear DX_60 DY_60 DE_60 DG_60 Lx_60 Ly_60 Ll_60 Lo_60 DK_60 RM_60; have La_61 := Aside0.mk (hL); have Lf_61 := Aside0.mk (hL2); clear hb hL hL2) | ((with_reducible refine gate_dst (N := 31) rfl ?_); refine loadP_g rfl ?hw gX _ _ _ rfl DX_60.out ?_; (case hw => rfl)))
 generalize w64 = W0 at *
 have HKE : Aside0 (∀ w', But W0.heap.size gK W0 w' → w'.heap[g6]? = some (.cells #[.int .i64 x, .int .i64 y, .slice (some ⟨r1, 0, none⟩) n c1] 25 (0, 0))) := ⟨fun w' T => T.at_ DE_64.out (blk_lt DE_64.out) (blk_ne DE_64.out DK_64.out (by decide))⟩
 have HKG : Aside0 (∀ w', But W0.heap.size gK W0 w' → w'.heap[g7]? = some (.cells #[.int .i64 u, .int .i64 v, .slice (some ⟨r2, 0, none⟩) m c2] 25 (0, 0))) := ⟨fun w' T => T.at_ DG_64.out (blk_lt DG_64.out) (blk_ne DG_64.out DK_64.out (by decide))⟩
 have HKA : Aside0 (∀ w', But W0.heap.size gK W0 w' → w'.heap[g9]? = some (.cells #[.int .i64 ax, .int .i64 ay, .slice A8 n8 c8] 25 (0, 0))) := ⟨fun w' T => T.at_ DA_64.out (blk_lt DA_64.out) (blk_ne DA_64.out DK_64.out (by decide))⟩
 have HKF : Aside0 (∀ w', But W0.heap.size gK W0 w' → w'.heap[g10]? = some (.cells #[.int .i64 fx, .int .i64 fy, .slice A9 n9 c9] 25 (0, 0))) := ⟨fun w' T => T.at_ DFf_64.out (blk_lt DFf_64.out) (blk_ne DFf_64.out DK_64.out (by decide))⟩
 have HKB : Aside0 (∀ w', But W0.heap.size gK W0 w' → w'.heap[g12]? = some (.cells #[.int .i64 bx, .int .i64 by_, .slice A10 n10 c10] 25 (0, 0))) := ⟨fun w' T => T.at_ DBb_64.out (blk_lt DBb_64.out) (blk_ne DBb_64.out DK_64.out (by decide))⟩
 have HLl : Aside0 (∀ w', But W0.heap.size gK W0 w' → PL w' (some ⟨r1, 0, none⟩) n c1 p) := ⟨fun w' T => T.PL Ll_64.out (fun ad hA _ => by injection hA with hA; subst hA; exact HRK.out.1)⟩
 have HLo : Aside0 (∀ w', But W0.heap.size gK W0 w' → PL w' (some ⟨r2, 0, none⟩) m c2 q) := ⟨fun w' T => T.PL Lo_64.out (fun ad hA _ => by injection hA with hA; subst hA; exact HRK.out.2)⟩
 have HLa : Aside0 (∀ w', But W0.heap.size gK W0 w' → PL w' A8 n8 c8 al) := ⟨fun w' T => T.PL La_64.out NA.out⟩
 have HLf : Aside0 (∀ w', But W0.heap.size gK W0 w' → PL w' A9 n9 c9 fl) := ⟨fun w' T => T.PL Lf_64.out NF.out⟩
 have HLb : Aside0 (∀ w', But W0.heap.size gK W0 w' → PL w' A10 n10 c10 bl) := ⟨fun w' T => T.PL Lb_64.out NB.out⟩
 have HGK : Aside0 (gK < W0.heap.size) := ⟨blk_lt DK_64.out⟩
 have HK0 : Aside0 (BkSamples W0 gK W0.heap.size [] []) := ⟨BkSamples.new DK_64.out⟩
 have HBW := B_64
 have HRM := RM_64
 have HDK := DK_64
 clear DE_64 DG_64 DA_64 DFf_64 DBb_64 Ll_64 Lo_64 La_64 Lf_64 Lb_64 Lx_64 Ly_64 DX_64 DY_64 NA NF NB HRK
 go_loopw [14] (fun v wr => ∃ (j : Nat) (hs : List Hd) (ms : List Int), j ≤ 2 ∧ v = .int .i64 j ∧ hs.length = 3 * j ∧ Aside0 (BkSamples wr gK W0.heap.size hs ms) ∧ Aside0 (But W0.heap.size gK W0 wr)) (fun v _ => 2 - (intOf v).toNat)
 case atStart => exact ⟨0, [], [], by omega, rfl, rfl, HK0, ⟨.refl _ _ _⟩⟩
 case round =>
  obtain ⟨j, hs, ms, hj, rfl, hhl, K_100, T_100⟩ := hrel
  have HHL := Aside0.mk hhl
  clear hhl
  by_cases hlt : j < 2
  ·have t1 : decide ((j : Int) < 2) = true := decide_eq_true (by omega)
   have HJ2 := Aside0.mk hlt
   go_wp2_with (first | (go_at_call 19; have hkey := T_112; clear hkey; refine (bookPlane gK W0.heap.size _ bx by_ _ A3 n3 c3_ _ _ _ bl K_112.out HGK.out T_112.out.size Oq_112.out BS_q.out AP_q.out ?h3).mono ?_; (case h3 => have := HHL.out; simp; omega); rintro e w113 ⟨rfl, ⟨kd113, hk⟩, ht, hz⟩; have T_113 := Aside0.mk (T_112.out.trans ht); have K_113 := Aside0.mk (hk); have DF_113 := Aside0.mk ((hz g15 _ _ DF_112.out (.inl rfl)).trans DF_112.out); have DH_113 := Aside0.mk ((hz g16 _ _ DH_112.out (.inl rfl)).trans DH_112.out); clear hk ht hz) | ((with_reducible refine gate_dst (N := 96) rfl ?_); have hkey := T_112; clear hkey; refine loadP_g rfl ?hw g15 _ _ _ rfl DF_112.out ?_; (case hw => rfl)) | (go_at_call 18; have hkey := T_111; clear hkey; refine (sameP bx by_ Oq_111.out.asPL (HLb.out _ T_111.out) HBL.out).mono ?_; rintro e w112 ⟨rfl, hb⟩; have T_112 := Aside0.mk (But.step T_111.out hb); have K_112 := Aside0.mk (K_111.out.below hb); have Oq_112 := Aside0.mk (Ow.mono Oq_111.out hb (Nat.le_refl _)); have DF_112 := Aside0.mk (blk_below DF_111.out hb); have DH_112 := Aside0.mk (blk_below DH_111.out hb); clear hb) | ((with_reducible refine gate_dst (N := 91) rfl ?_); have hkey := T_111; clear hkey; refine loadP_g rfl ?hw g12 _ _ _ rfl (HKB.out _ T_111.out) ?_; (case hw => rfl)) | ((with_reducible refine gate_dst (N := 90) rfl ?_); have hkey := T_111; clear hkey; refine loadP_g rfl ?hw g15 _ _ _ rfl DF_111.out ?_; (case hw => rfl)) | ((with_reducible refine gate_store (p := 15) rfl ?_); refine storeP_event rfl rfl rfl g15 bx by_ A3 n3 c3_ _ _ _ rfl rfl DF_110.out ?_; intro w111 hm_ hst_ hbl_; have hkey := T_110; clear hkey; have T_111 := Aside0.mk (T_110.out.trans (.of_below (hbl_ _ GF.out))); have K_111 := Aside0.mk (K_110.out.st DF_110.out hst_); have Oq_111 := Aside0.mk (Ow.st Oq_110.out DF_110.out hst_); have DH_111 := Aside0.mk ((hst_ g16 NHF.out).trans DH_110.out); have DF_111 := Aside0.mk (hm_); clear hm_ hst_ hbl_) | (go_at_call 33; have hkey := T_109; clear hkey; refine (Out_as (Join_any (HLl.out _ T_109.out) HPX.out (HLo.out _ T_109.out) HQX.out) HOB.out).mono ?_; rintro e w110 ⟨A3, n3, c3_, rfl, hO, hn_, hL_, hb⟩; have T_110 := Aside0.mk (But.step T_109.out hb); have K_110 := Aside0.mk (K_109.out.below hb); have DF_110 := Aside0.mk (blk_below DF_109.out hb); have DH_110 := Aside0.mk (blk_below DH_109.out hb); have Oq_110 := Aside0.mk (hO); have AP_q := Aside0.mk (Ow.apart hO K_109.out.apart); have BS_q := Aside0.mk (T_109.out.size); clear hO hn_ hL_ hb) | ((with_reducible refine gate_dst (N := 81) rfl ?_); have hkey := T_109; clear hkey; refine loadP_g rfl ?hw g7 _ _ _ rfl (HKG.out _ T_109.out) ?_; (case hw => rfl)) | ((with_reducible refine gate_dst (N := 80) rfl ?_); have hkey := T_109; clear hkey; refine loadP_g rfl ?hw g6 _ _ _ rfl (HKE.out _ T_109.out) ?_; (case hw => rfl)) | (go_at_call 19; have hkey := T_108; clear hkey; refine (bookPlane gK W0.heap.size _ fx fy _ A2 n2 c2_ _ _ _ fl K_108.out HGK.out T_108.out.size Of_108.out BS_f.out AP_f.out ?h3).mono ?_; (case h3 => have := HHL.out; simp; omega); rintro e w109 ⟨rfl, ⟨kd109, hk⟩, ht, hz⟩; have T_109 := Aside0.mk (T_108.out.trans ht); have K_109 := Aside0.mk (hk); have DF_109 := Aside0.mk ((hz g15 _ _ DF_108.out (.inl rfl)).trans DF_108.out); have DH_109 := Aside0.mk ((hz g16 _ _ DH_108.out (.inl rfl)).trans DH_108.out); clear hk ht hz) | ((with_reducible refine gate_dst (N := 74) rfl ?_); have hkey := T_108; clear hkey; refine loadP_g rfl ?hw g16 _ _ _ rfl DH_108.out ?_; (case hw => rfl)) | (go_at_call 19; have hkey := T_107; clear hkey; refine (bookPlane gK W0.heap.size _ ax ay _ A1 n1 c1_ _ _ _ al K_107.out HGK.out T_107.out.size Op_107.out BS_p.out AP_p.out ?h3).mono ?_; (case h3 => have := HHL.out; simp; omega); rintro e w108 ⟨rfl, ⟨kd108, hk⟩, ht, hz⟩; have T_108 := Aside0.mk (T_107.out.trans ht); have K_108 := Aside0.mk (hk); have DF_108 := Aside0.mk ((hz g15 _ _ DF_107.out (.inl rfl)).trans DF_107.out); have DH_108 := Aside0.mk ((hz g16 _ _ DH_107.out (.inl rfl)).trans DH_107.out); have Of_108 := Aside0.mk (Ow.keep Of_107.out hz HFAR.out); clear hk ht hz; have AP_f := Aside0.mk (fun ad hA => (AF.out ad hA).snoc (k := kd108) (fun a1 h1 => HFAR.out a1 ad h1 hA))) | ((with_reducible refine gate_dst (N := 69) rfl ?_); have hkey := T_107; clear hkey; refine loadP_g rfl ?hw g15 _ _ _ rfl DF_107.out ?_; (case hw => rfl)) | (go_at_call 18; have hkey := T_106; clear hkey; refine (sameP fx fy Of_106.out.asPL (HLf.out _ T_106.out) HFL.out).mono ?_; rintro e w107 ⟨rfl, hb⟩; have T_107 := Aside0.mk (But.step T_106.out hb); have K_107 := Aside0.mk (K_106.out.below hb); have Op_107 := Aside0.mk (Ow.mono Op_106.out hb (Nat.le_refl _)); have Of_107 := Aside0.mk (Ow.mono Of_106.out hb (Nat.le_refl _)); have DF_107 := Aside0.mk (blk_below DF_106.out hb); have DH_107 := Aside0.mk (blk_below DH_106.out hb); clear hb) | ((with_reducible refine gate_dst (N := 64) rfl ?_); have hkey := T_106; clear hkey; refine loadP_g rfl ?hw g10 _ _ _ rfl (HKF.out _ T_106.out) ?_; (case hw => rfl)) | ((with_reducible refine gate_dst (N := 63) rfl ?_); have hkey := T_106; clear hkey; refine loadP_g rfl ?hw g16 _ _ _ rfl DH_106.out ?_; (case hw => rfl)) | (go_at_call 18; have hkey := T_105; clear hkey; refine (sameP ax ay Op_105.out.asPL (HLa.out _ T_105.out) HAL.out).mono ?_; rintro e w106 ⟨rfl, hb⟩; have T_106 := Aside0.mk (But.step T_105.out hb); have K_106 := Aside0.mk (K_105.out.below hb); have Op_106 := Aside0.mk (Ow.mono Op_105.out hb (Nat.le_refl _)); have Of_106 := Aside0.mk (Ow.mono Of_105.out hb (Nat.le_refl _)); have DF_106 := Aside0.mk (blk_below DF_105.out hb); have DH_106 := Aside0.mk (blk_below DH_105.out hb); clear hb) | ((with_reducible refine gate_dst (N := 58) rfl ?_); have hkey := T_105; clear hkey; refine loadP_g rfl ?hw g9 _ _ _ rfl (HKA.out _ T_105.out) ?_; (case hw => rfl)) | ((with_reducible refine gate_dst (N := 57) rfl ?_); have hkey := T_105; clear hkey; refine loadP_g rfl ?hw g15 _ _ _ rfl DF_105.out ?_; (case hw => rfl)) | (go_at_call 17; refine (num_calls _ _).mono ?_; rintro e wz ⟨rfl, hw_⟩; have h := hw_.symm; clear hw_; subst h) | ((with_reducible refine gate_store (p := 16) rfl ?_); refine storeP_event rfl rfl rfl g16 fx fy A2 n2 c2_ _ _ _ rfl rfl DH_104.out ?_; intro w105 hm_ hst_ hbl_; have hkey := T_104; clear hkey; have T_105 := Aside0.mk (T_104.out.trans (.of_below (hbl_ _ GH.out))); have K_105 := Aside0.mk (K_104.out.st DH_104.out hst_); have Op_105 := Aside0.mk (Ow.st Op_104.out DH_104.out hst_); have Of_105 := Aside0.mk (Ow.st Of_104.out DH_104.out hst_); have DF_105 := Aside0.mk ((hst_ g15 NFH.out).trans DF_104.out); have DH_105 := Aside0.mk (hm_); clear hm_ hst_ hbl_) | ((with_reducible refine gate_store (p := 15) rfl ?_); refine storeP_event rfl rfl rfl g15 ax ay A1 n1 c1_ _ _ _ rfl rfl DF_103.out ?_; intro w104 hm_ hst_ hbl_; have hkey := T_103; clear hkey; have T_104 := Aside0.mk (T_103.out.trans (.of_below (hbl_ _ GF.out))); have K_104 := Aside0.mk (K_103.out.st DF_103.out hst_); have Op_104 := Aside0.mk (Ow.st Op_103.out DF_103.out hst_); have Of_104 := Aside0.mk (Ow.st Of_103.out DF_103.out hst_); have DH_104 := Aside0.mk ((hst_ g16 NHF.out).trans DH_103.out); have DF_104 := Aside0.mk (hm_); clear hm_ hst_ hbl_) | ((with_reducible refine gate_dst (N := 16) rfl ?_); refine box_event ?hg (N := 16) ?hd (cs := #[.int .i64 0, .int .i64 0, .slice none 0 0]) (t := 25) ?hr ?_; (case hd => rfl); (case hg => rfl); (case hr => first | (go_simp; done) | (go_simp; rfl)); intro g16 hg_ w103 hm_ hb_; have hkey := T_102; clear hkey; have NFH := Aside0.mk (show g15 ≠ g16 by rw [hg_]; have := blk_lt DF_102.out; omega); have NHF := Aside0.mk (NFH.out.symm); have T_103 := Aside0.mk (But.step T_102.out hb_); have K_103 := Aside0.mk (K_102.out.below hb_); have Op_103 := Aside0.mk (Ow.mono Op_102.out hb_ (Nat.le_refl _)); have Of_103 := Aside0.mk (Ow.mono Of_102.out hb_ (Nat.le_refl _)); have DF_103 := Aside0.mk (blk_below DF_102.out hb_); have DH_103 := Aside0.mk (hm_); have GH := Aside0.mk (show W0.heap.size ≤ g16 by rw [hg_]; exact T_102.out.size); clear hm_ hb_ hg_) | ((with_reducible refine gate_dst (N := 15) rfl ?_); refine box_event ?hg (N := 15) ?hd (cs := #[.int .i64 0, .int .i64 0, .slice none 0 0]) (t := 25) ?hr ?_; (case hd => rfl); (case hg => rfl); (case hr => first | (go_simp; done) | (go_simp; rfl)); intro g15 hg_ w102 hm_ hb_; have hkey := T_101; clear hkey; have T_102 := Aside0.mk (But.step T_101.out hb_); have K_102 := Aside0.mk (K_101.out.below hb_); have Op_102 := Aside0.mk (Ow.mono Op_101.out hb_ (Nat.le_refl _)); have Of_102 := Aside0.mk (Ow.mono Of_101.out hb_ (Nat.le_refl _)); have DF_102 := Aside0.mk (hm_); have GF := Aside0.mk (show W0.heap.size ≤ g15 by rw [hg_]; exact T_101.out.size); clear hm_ hb_ hg_) | (go_at_call 25; have hkey := T_100; clear hkey; refine (Out2_as (Split_any (HLl.out _ T_100.out) HPX.out) HOA.out HOF.out).mono ?_; rintro e w101 ⟨A1, n1, c1_, A2, n2, c2_, rfl, hO, hO2, hF, hb⟩; have T_101 := Aside0.mk (But.step T_100.out hb); have K_101 := Aside0.mk (K_100.out.below hb); have Op_101 := Aside0.mk (hO); have Of_101 := Aside0.mk (hO2); have AP_p := Aside0.mk (Ow.apart hO K_100.out.apart); have AF := Aside0.mk (Ow.apart hO2 K_100.out.apart); have BS_p := Aside0.mk (T_100.out.size); have BS_f := Aside0.mk (T_100.out.size); have HFAR := Aside0.mk (hF); clear hO hO2 hF hb) | ((with_reducible refine gate_dst (N := 47) rfl ?_); have hkey := T_100; clear hkey; refine loadP_g rfl ?hw g6 _ _ _ rfl (HKE.out _ T_100.out) ?_; (case hw => rfl)))
   go_roundw
   case measure => simp [intOf]; have := HJ2.out; omega
   case rel => exact ⟨j + 1, _, _, HJ2.out, by go_num, by have := HHL.out; simp; omega, K_113, T_113⟩
  ·obtain rfl : j = 2 := by omega
   have Z : Aside0 (Below w.heap.size w wr) := ⟨HBW.out.trans (T_100.out.below HBW.out.size HGW.out)⟩
   have RR : Aside0 (RmS wr gM w5x.heap.size hs6 ws6) := ⟨HRM.out.but (Nat.le_refl _) HDK.out T_100.out⟩
   go_wp2_with (first | (go_at_call 21; refine (bookHold gK _ _ _ _ K_100.out).mono ?_; rintro e w190 ⟨rfl, b10⟩; have B10 := Aside0.mk b10; clear b10) | (go_at_call 22; refine (roomHold gM _ _ _ _ (RR.out.below B10.out)).mono ?_; rintro e w191 ⟨rfl, b11⟩; have B11 := Aside0.mk (below_step (below_step Z.out B10.out) b11); clear b11))
   go_ret
   exact ⟨rfl, B11.out⟩
end Go.Proofs.Ytodlgdpkadkjjaa.A
end
section
-- PRINTED WORDS (module Derived/Print/Sized.lean): go-gate-2's, for the rows of laws over slices: an AI agent of Go's test side, Tue Nov 17 2026; no person has read it. Lean checks it.
namespace Go.Proofs.YtodlgdpkadkjjaaW.PrintWords
open Go.ChangeShapes Go.WideShapes
/-- A row's slice of whole numbers is no longer than its weight allows. -/
theorem sized_ints {H : Type} {enc : TypeId × Value → H} {P : Program} {W : World} {base : Nat} {spare : Nat → Bool} {held : Bool} {t e : TypeId} {k : IntKind} {a : Option Addr} {len cap : Nat} {d : DataW H} {ps : List MemPlace} {ts : List TypeId} {ds : List (DataW H)} {j : Nat}
    (hsz : (DataW.weightsEach P ts ds).all (· ≤ reachBytes) = true) (ht : ts[j]? = some t) (hd : ds[j]? = some d) (hu : P.underlying t = some (.slice e)) (he : P.underlying e = some (.int k)) (hc : P.cellsOf e = 1) {B : Nat} (hB : P.bytesOf e = B)
    (h : DataW.Trod enc P W base spare held t (.slice a len cap) d ps) : len * B ≤ 140737488351232 := by
 obtain ⟨fuel, hf⟩ := h
 rcases open_ints hu he hc hf with ⟨hcs, _⟩ | ⟨x, l, c, zs, hcs, _, hl, _, hz, hx, _, _⟩
 ·simp [Value.cells] at hcs
  obtain ⟨rfl, rfl, rfl⟩ := hcs
  simp
 ·simp [Value.cells] at hcs
  obtain ⟨rfl, rfl, rfl⟩ := hcs
  obtain ⟨hx, _⟩ := Prod.mk.inj hx
  subst hx
  have z := sized_slice hsz ht hd hu
  rw [hB] at z
  have hl2 : len ≤ zs.length := by
   rw [hz]
   split
   ·exact hl
   ·exact Nat.le_refl _
  have h1 : (lits (H := H) k (zs.take len)).length + (lits (H := H) k (zs.drop len)).length = zs.length := by
   simp [lits]
   omega
  rw [h1] at z
  exact Nat.le_trans (Nat.mul_le_mul_right _ hl2) z
end Go.Proofs.YtodlgdpkadkjjaaW.PrintWords
end
