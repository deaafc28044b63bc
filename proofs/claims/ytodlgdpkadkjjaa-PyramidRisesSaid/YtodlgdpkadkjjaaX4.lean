import Derived.Test.YtodlgdpkadkjjaaX3
section
set_option linter.unusedVariables false
set_option linter.unusedSimpArgs false
namespace Go.Proofs.Ytodlgdpkadkjjaa.A
open Go.RowKit Go.Shelf Go.Proofs.YtodlgdpkadkjjaaW.PrintWords Go.Proofs.YtodlgdpkadkjjaaW.PrintLast Go.Proofs.YtodlgdpkadkjjaaW.PrintMore Go.Proofs.Ytodlgdpkadkjjaa.PPyramidLevels
/-- a sample as a double; of a NaN any -/
theorem value_any (s : Nat) (hs : s < 4294967296) (w : World) : Calls Try.prog 28 #[.int .u32 (s : Int)] w fun e w' => ∃ v, e = .returned (.float .f64 v) ∧ Below w.heap.size w w' ∧ ∀ z, F32 s z → v = dv s := by
 have hfrom := fun w => run_from s w
 obtain ⟨v, m, hr, hv⟩ := step_wv s hs w
 have hb : Below w.heap.size w (w.drewN m) := pw_below_drewN (Below.refl _ _) _
 have hz : ∀ z, F32 s z → v = dv s := fun z h => by
  rw [(dv_z h).1] at hv
  exact hv
 clear hv
 have hpost : ∃ v', Ending.returned (.float .f64 v) = .returned (.float .f64 v') ∧ Below w.heap.size w (w.drewN m) ∧ ∀ z, F32 s z → v' = dv s := ⟨v, rfl, hb, hz⟩
 clear hz hb
 have HPO := Aside0.mk hpost
 clear hpost
 generalize w.drewN m = wm at *
 go_enter Try.func28, Try.ntmps28
 go_wp2_with (first | ((with_reducible refine gate_dst (N := 4) rfl ?_); refine same_event rfl (.float .f32 s) ?hr ?_; (case hr => first | (go_simp; done) | (go_simp; rfl))) | ((with_reducible refine gate_dst (N := 5) rfl ?_); refine Kd.event_run rfl (v := .float .f64 v) (w1 := wm) ?hr ?_; (case hr => first | (go_simp; done) | (go_simp; rfl))))
 go_ret
 exact HPO.out
theorem risesL {u v u2 v2 : Int} {A B : Option Addr} {n1 n2 c c2 : Nat} {ps qs : List Nat} {x y : Nat} {lz mz : Int} {w : World} (hx : DZ x lz) (hy : DZ y mz) (ha : PL w A n1 c ps) (hb : PL w B n2 c2 qs) (hl : ps.length = qs.length) (h0 : 0 < ps.length) (h : ∀ k, k < ps.length → P3 lz mz (gt ps k) (gt qs k)) :
    Calls Try.prog 29 #[.agg #[.int .i64 u, .int .i64 v, .slice A n1 c], .agg #[.int .i64 u2, .int .i64 v2, .slice B n2 c2], .float .f64 x, .float .f64 y] w fun e w' => e = .returned (.bool true) ∧ Below w.heap.size w w' := by
 have e : n1 = n2 := by rw [← ha.2.2, ← hb.2.2, hl]
 subst e
 rw [ha.2.2] at h0 h
 exact rises_calls u v u2 v2 A B n1 c c2 ps qs x y lz mz w hx hy ha hb h0 h
theorem dec64 {a b : Nat} (h : a - 1 = b) (h2 : 2 ≤ a) (h3 : a ≤ 1024) : wrap64 ((a : Int) - 1) = (b : Int) := by
 have e : (a : Int) - 1 = (b : Int) := by omega
 rw [e]
 exact w64N b (by omega)
theorem hf_t {W W2 : Nat} (h : 2 * W = W2) : hf W2 = W := by unfold hf; omega
theorem hf_t3 {W W2 W3 : Nat} (h : 2 * W = W2) (h2 : W2 - 1 = W3) (h3 : 0 < W) : hf W3 = W := by unfold hf; omega
theorem lt5 {n : Nat} (h : n ≤ 1024) : n < 100000 := by omega
theorem size_p3 {a b : Nat} (h : 2 ≤ a) (h2 : a - 1 = b) : 0 < b := by omega
theorem size_l3 {a b : Nat} (h2 : a - 1 = b) : b ≤ a := by omega
theorem size_of {W H W2 H2 a b : Nat} (h : 0 < W ∧ 0 < H ∧ 2 * W ≤ 1024 ∧ 2 * H ≤ 1024 ∧ 4 * W * H ≤ 16384) (hW : 2 * W = W2) (hH : 2 * H = H2) (h1 : 0 < a) (h2 : 0 < b) (h3 : a ≤ W2) (h4 : b ≤ H2) : 0 < a ∧ 0 < b ∧ a ≤ 1024 ∧ b ≤ 1024 ∧ a * b ≤ 65536 := by
 have e : W2 * H2 = 4 * W * H := by rw [← hW, ← hH, Nat.mul_mul_mul_comm, Nat.mul_assoc 4 W H]
 have e2 : a * b ≤ W2 * H2 := Nat.mul_le_mul h3 h4
 exact ⟨h1, h2, by omega, by omega, by omega⟩
set_option maxHeartbeats 16000000 in
set_option maxRecDepth 100000 in
theorem rises_main (W H : Nat) (A B : Option Addr) (n cap capq : Nat) (odd : Bool) (xs ys : List Nat) (w : World) (hx : PL w A n cap xs) (hy : PL w B n capq ys) (hp : (Pl.mk W H xs).ok) (hq : (Pl.mk W H ys).ok) (gP : 4 * W * H ≤ 16384) (gW : 2 * W ≤ 1024) (gH : 2 * H ≤ 1024) :
    Calls Try.prog 6 #[.agg #[.int .i64 (W : Int), .int .i64 (H : Int), .slice A n cap], .agg #[.int .i64 (W : Int), .int .i64 (H : Int), .slice B n capq], .bool odd] w fun e w' => e = .returned (.bool true) ∧ Below w.heap.size w w' := by
 have hu25 := Try.underlying25
 have HN := Aside0.mk hx.lt
 have HM := Aside0.mk hy.lt
 have Lx_0 := Aside0.mk hx
 have Ly_0 := Aside0.mk hy
 have HE : Aside0 (checkE (W : Int) (H : Int) n = 0) := ⟨by rw [← hx.2.2]; exact hp.checkE⟩
 have HF : Aside0 (checkE (W : Int) (H : Int) n = 0) := ⟨by rw [← hy.2.2]; exact hq.checkE⟩
 have hwl : W ≤ 1024 := hp.2.2.1
 have hhl : H ≤ 1024 := hp.2.2.2.1
 have hwh : W * H ≤ 65536 := hp.2.2.2.2.1
 obtain ⟨W2, hW2⟩ : ∃ W2, 2 * W = W2 := ⟨_, rfl⟩
 obtain ⟨H2, hH2⟩ : ∃ H2, 2 * H = H2 := ⟨_, rfl⟩
 obtain ⟨W4, hW4⟩ : ∃ W4, 4 * W = W4 := ⟨_, rfl⟩
 obtain ⟨P4, hP4⟩ : ∃ P4, W4 * H = P4 := ⟨_, rfl⟩
 have hb4 : P4 ≤ 262144 := by rw [← hP4, ← hW4, Nat.mul_assoc]; omega
 have HP := Aside0.mk hp
 have HQ := Aside0.mk hq
 have hn : W * H = n := by rw [← hx.2.2]; exact hp.2.2.2.2.2.1.symm
 have hwp : 0 < W := hp.1
 have hhp : 0 < H := hp.2.1
 have HPN : Aside0 (0 < n) := ⟨by rw [← hn]; exact Nat.mul_pos hwp hhp⟩
 have HNN := Aside0.mk hn
 have HL : Aside0 (n ≤ 35184372088832) := ⟨by omega⟩
 have hmb : n ≤ 65536 := by omega
 have HXX := Aside0.mk hp.2.2.2.2.2.2
 have HYY := Aside0.mk hq.2.2.2.2.2.2
 have gp4 : P4 ≤ 16384 := by rw [← hP4, ← hW4]; exact gP
 have HWH : Aside0 (0 < W ∧ 0 < H ∧ 2 * W ≤ 1024 ∧ 2 * H ≤ 1024 ∧ 4 * W * H ≤ 16384) := ⟨⟨hwp, hhp, gW, gH, gP⟩⟩
 have HW2 := Aside0.mk hW2
 have HH2 := Aside0.mk hH2
 have t1 : ((W : Int) != (W : Int)) = false := bne_self_eq_false _
 have t2 : ((H : Int) != (H : Int)) = false := bne_self_eq_false _
 have t3 : decide ((16384 : Int) < (P4 : Int)) = false := decide_eq_false (by omega)
 have t4 : decide ((1024 : Int) < (W2 : Int)) = false := decide_eq_false (by omega)
 have t5 : decide ((1024 : Int) < (H2 : Int)) = false := decide_eq_false (by omega)
 have m1 : wrap64 (2 * (W : Int)) = (W2 : Int) := by rw [show 2 * (W : Int) = ((2 * W : Nat) : Int) from rfl, hW2]; exact w64N W2 (by rw [← hW2]; exact Nat.le_trans (Nat.mul_le_mul_left 2 hwl) (by decide))
 have m2 : wrap64 (2 * (H : Int)) = (H2 : Int) := by rw [show 2 * (H : Int) = ((2 * H : Nat) : Int) from rfl, hH2]; exact w64N H2 (by rw [← hH2]; exact Nat.le_trans (Nat.mul_le_mul_left 2 hhl) (by decide))
 have m3 : wrap64 (4 * (W : Int)) = (W4 : Int) := by rw [show 4 * (W : Int) = ((4 * W : Nat) : Int) from rfl, hW4]; exact w64N W4 (by rw [← hW4]; exact Nat.le_trans (Nat.mul_le_mul_left 4 hwl) (by decide))
 have m4 : wrap64 ((W4 : Int) * (H : Int)) = (P4 : Int) := by rw [← Int.natCast_mul, hP4]; exact w64N P4 (Nat.le_trans hb4 (by decide))
 clear hwl hhl hwh hb4 hW2 hH2 hW4 hP4 hn hwp hhp gp4 gP gW gH hp hq hx hy
 have B_0 : Aside0 (Below w.heap.size w w) := ⟨Below.refl _ _⟩
 go_enter Try.func6, Try.ntmps6
 go_upto_region 5 with (first | (go_at_call 26; have hkey := B_4; clear hkey; refine (May_calls (W : Int) (H : Int) B n capq _ HM.out).mono ?_; rw [HF.out]; rintro e w5 ⟨rfl, hb⟩; have B_5 := Aside0.mk (below_step B_4.out hb); have DX_5 := Aside0.mk (blk_below DX_4.out hb); have DY_5 := Aside0.mk (blk_below DY_4.out hb); have Lx_5 := Aside0.mk (Lx_4.out.below hb); have Ly_5 := Aside0.mk (Ly_4.out.below hb); clear DX_4 DY_4 Lx_4 Ly_4; clear hb; have p0 := (blk_cell DX_5.out 0).trans rfl; have p1 := (blk_cell DX_5.out 1).trans rfl; have p2 := (blk_cell DX_5.out 2).trans rfl; have q0 := (blk_cell DY_5.out 0).trans rfl; have q1 := (blk_cell DY_5.out 1).trans rfl; have q2 := (blk_cell DY_5.out 2).trans rfl) | ((with_reducible refine gate_dst (N := 28) rfl ?_); refine loadP_g rfl ?hw gY _ _ _ rfl DY_4.out ?_; (case hw => rfl)) | (go_at_call 26; have hkey := B_3; clear hkey; refine (May_calls (W : Int) (H : Int) A n cap _ HN.out).mono ?_; rw [HE.out]; rintro e w4 ⟨rfl, hb⟩; have B_4 := Aside0.mk (below_step B_3.out hb); have DX_4 := Aside0.mk (blk_below DX_3.out hb); have DY_4 := Aside0.mk (blk_below DY_3.out hb); have Lx_4 := Aside0.mk (Lx_3.out.below hb); have Ly_4 := Aside0.mk (Ly_3.out.below hb); clear DX_3 DY_3 Lx_3 Ly_3; clear hb) | ((with_reducible refine gate_dst (N := 24) rfl ?_); refine loadP_g rfl ?hw gX _ _ _ rfl DX_3.out ?_; (case hw => rfl)) | (go_at_call 12; have hkey := B_2; clear hkey; refine (known_c _).mono ?_; rintro e w3 ⟨rfl, hb⟩; have B_3 := Aside0.mk (below_step B_2.out hb); have DX_3 := Aside0.mk (blk_below DX_2.out hb); have DY_3 := Aside0.mk (blk_below DY_2.out hb); have Lx_3 := Aside0.mk (Lx_2.out.below hb); have Ly_3 := Aside0.mk (Ly_2.out.below hb); clear DX_2 DY_2 Lx_2 Ly_2; clear hb) | ((with_reducible refine gate_dst (N := 4) rfl ?_); refine box_event ?hg (N := 4) ?hd (cs := #[.int .i64 (W : Int), .int .i64 (H : Int), .slice B n capq]) (t := 25) ?hr ?_; (case hd => rfl); (case hg => rfl); (case hr => first | (go_simp; done) | (go_simp; rfl)); intro gY hg_ w2 hm_ hb_; have DX_2 := Aside0.mk (blk_below DX_1.out hb_); have DY_2 := Aside0.mk (hm_); have B_2 := Aside0.mk (below_step B_1.out hb_); have Lx_2 := Aside0.mk (Lx_1.out.below hb_); have Ly_2 := Aside0.mk (Ly_1.out.below hb_); clear DX_1 Lx_1 Ly_1; clear hm_ hb_ hg_) | ((with_reducible refine gate_dst (N := 3) rfl ?_); refine box_event ?hg (N := 3) ?hd (cs := #[.int .i64 (W : Int), .int .i64 (H : Int), .slice A n cap]) (t := 25) ?hr ?_; (case hd => rfl); (case hg => rfl); (case hr => first | (go_simp; done) | (go_simp; rfl)); intro gX hg_ w1 hm_ hb_; have DX_1 := Aside0.mk (hm_); have B_1 := Aside0.mk (below_step B_0.out hb_); have Lx_1 := Aside0.mk (Lx_0.out.below hb_); have Ly_1 := Aside0.mk (Ly_0.out.below hb_); clear Lx_0 Ly_0; clear hm_ hb_ hg_))
 have DX_d := Aside0.mk (blk_drew DX_5.out)
 have DY_d := Aside0.mk (blk_drew DY_5.out)
 have Lx_d := Aside0.mk (Lx_5.out.below (below_drew1 (Below.refl _ _)))
 have Ly_d := Aside0.mk (Ly_5.out.below (below_drew1 (Below.refl _ _)))
 have B_d : Aside0 (Below w.heap.size w w5.drew) := ⟨below_drew1 B_5.out⟩
 clear DX_5 DY_5 Lx_5 Ly_5 B_5
 have DX_20 := DX_d
 have DY_20 := DY_d
 have Lx_20 := Lx_d
 have Ly_20 := Ly_d
 have B_20 := B_d
 clear DX_d DY_d Lx_d Ly_d B_d
 have BR_ : Aside0 (Below w5.drew.heap.size w5.drew w5.drew) := ⟨Below.refl _ _⟩
 refine start_ (n := 8) (S := fun w' => w'.cell? ⟨gX, 0, none⟩ = some (.int .i64 (W : Int)) ∧ w'.cell? ⟨gX, 1, none⟩ = some (.int .i64 (H : Int)) ∧ w'.cell? ⟨gX, 2, none⟩ = some (.slice A n cap)) (ds := [7]) #[ff_,ff_,ff_,ff_,ff_,ff_,ff_,ff_] (by kernel_rfl) rfl rfl ⟨(blk_cell DX_20.out 0).trans rfl, (blk_cell DX_20.out 1).trans rfl, (blk_cell DX_20.out 2).trans rfl⟩ (fun hHeld => ?_)
 generalize w5.drew = w20 at *
 refine take_ (i := 0) (N := some 67) (v := ?_) (a' := ?_) #[tt_,ff_,ff_,ff_,ff_,ff_,ff_,ff_] rfl rfl (by kernel_rfl) (fun _ _ _ h => h) (Or.inl ⟨by rfl, ?_⟩) hHeld ?_ ?_
 rotate_left
 ·rintro w' ⟨s0, s1, s2⟩
  go_simp
  with_reducible rfl
 rotate_left
 ·simp only [Act.put, List.setIfInBounds_toArray, List.set_cons_zero, List.set_cons_succ, i64_w, i32_w]
  rfl
 refine take_ (i := 2) (N := some 69) (v := ?_) (a' := ?_) #[tt_,ff_,tt_,ff_,ff_,ff_,ff_,ff_] rfl rfl (by kernel_rfl) (fun _ _ _ h => h) (Or.inl ⟨by rfl, ?_⟩) hHeld ?_ ?_
 rotate_left
 ·rintro w' ⟨s0, s1, s2⟩
  go_simp
  with_reducible rfl
 rotate_left
 ·simp only [Act.put, List.setIfInBounds_toArray, List.set_cons_zero, List.set_cons_succ, i64_w, i32_w]
  rfl
 refine join_ (σ := Nat × Nat × Nat × Nat × Nat × Nat) 2 #[tt_,tt_,tt_,tt_,tt_,tt_,ff_,ff_] (fun q_ => [(68, .agg #[.int .i64 (W : Int), .int .i64 (H : Int), .slice (some ⟨q_.1, 0, none⟩) n q_.2.1]), (70, .agg #[.int .i64 (W : Int), .int .i64 (H : Int), .slice (some ⟨q_.2.2.1, 0, none⟩) n q_.2.2.2.1]), (7, .pointer (some ⟨q_.2.2.2.2.1, 0, none⟩)), (8, .pointer (some ⟨q_.2.2.2.2.2, 0, none⟩))]) (fun q_ w' => (nat .u32).R 50 w' w20.heap.size (fun k => k ≠ q_.2.2.1) (.slice (some ⟨q_.1, 0, none⟩) n q_.2.1) xs ∧ (nat .u32).R 50 w' w20.heap.size (fun k => k ≠ q_.1) (.slice (some ⟨q_.2.2.1, 0, none⟩) n q_.2.2.2.1) xs ∧ w'.heap[q_.2.2.2.2.1]? = some (.cells #[.int .i64 0, .int .i64 0, .slice none 0 0] 25 (0, 0)) ∧ w'.heap[q_.2.2.2.2.2]? = some (.cells #[.int .i64 0, .int .i64 0, .slice none 0 0] 25 (0, 0)) ∧ q_.2.2.2.2.1 ≠ q_.2.2.2.2.2 ∧ w20.heap.size ≤ q_.2.2.2.2.1 ∧ w20.heap.size ≤ q_.2.2.2.2.2 ∧ w20.heap.size ≤ q_.1 ∧ w20.heap.size ≤ q_.2.2.1 ∧ q_.1 ≠ q_.2.2.1 ∧ Below w20.heap.size w20 w') ?_ ?_
 rotate_left
 ·intro hCont
  refine three_ (i := 1) (j := 4) (k := 5) (Ni := some 68) (Nj := some 7) (Nk := some 8) #[tt_,tt_,tt_,ff_,ff_,ff_,ff_,ff_] #[tt_,ff_,tt_,ff_,tt_,ff_,ff_,ff_] #[tt_,ff_,tt_,ff_,ff_,tt_,ff_,ff_] rfl rfl rfl rfl rfl rfl (by kernel_rfl) (by decide) (by decide) (by decide) (fun K hK => ?_) (fun K hK => ?_) (fun K hK => ?_)
  ·skip
   refine goes_ Try.func27 (by kernel_rfl) rfl #[.agg #[.int .i64 (W : Int), .int .i64 (H : Int), .slice A n cap]] (by rfl) rfl rfl (by (try simp only [List.map_toArray, List.map_cons, List.map_nil]); rfl) ?_
   refine (Copy_calls (W : Int) (H : Int) A n cap xs _ Lx_20.out.2.2 (Lx_20.out.below BR_.out).1 HL.out).mono ?_
   rintro e w_1 ⟨v1, rfl, hR, hb⟩
   refine ⟨_, rfl, ?_⟩
   obtain ⟨gl, cl, hv1, hg, hlt, _⟩ := Kd.R_form hR (by rw [Lx_20.out.2.2]; exact HPN.out)
   rw [Lx_20.out.2.2] at hv1
   subst hv1
   have BR_1 := Aside0.mk (below_step BR_.out hb)
   have GL := Aside0.mk (show w20.heap.size ≤ gl from Nat.le_trans BR_.out.size hg)
   have V_1 := Aside0.mk (Kd.R_lower hR BR_.out.size)
   have SL_1 := Aside0.mk (hlt)
   clear hR hb hg hlt
   refine hK.out _ _ ⟨(blk_cell (blk_below DX_20.out BR_1.out) 0).trans rfl, (blk_cell (blk_below DX_20.out BR_1.out) 1).trans rfl, (blk_cell (blk_below DX_20.out BR_1.out) 2).trans rfl⟩ (fun hHeld => ?_)
   clear hK K
   refine norm_ (a' := ?_) ?_ ?_
   rotate_left
   ·show Act.put _ (some 68) _ = _
    simp only [Act.put, List.setIfInBounds_toArray, List.set_cons_zero, List.set_cons_succ, i64_w, i32_w]
    rfl
   refine three_ (i := 3) (j := 4) (k := 5) (Ni := some 70) (Nj := some 7) (Nk := some 8) #[tt_,tt_,tt_,tt_,ff_,ff_,ff_,ff_] #[tt_,tt_,tt_,ff_,tt_,ff_,ff_,ff_] #[tt_,tt_,tt_,ff_,ff_,tt_,ff_,ff_] rfl rfl rfl rfl rfl rfl (by kernel_rfl) (by decide) (by decide) (by decide) (fun K hK => ?_) (fun K hK => ?_) (fun K hK => ?_)
   ·skip
    refine goes_ Try.func27 (by kernel_rfl) rfl #[.agg #[.int .i64 (W : Int), .int .i64 (H : Int), .slice A n cap]] (by rfl) rfl rfl (by (try simp only [List.map_toArray, List.map_cons, List.map_nil]); rfl) ?_
    refine (Copy_calls (W : Int) (H : Int) A n cap xs _ Lx_20.out.2.2 (Lx_20.out.below BR_1.out).1 HL.out).mono ?_
    rintro e w_1_3 ⟨v1, rfl, hR, hb⟩
    refine ⟨_, rfl, ?_⟩
    obtain ⟨gh, ch, hv1, hg, hlt, _⟩ := Kd.R_form hR (by rw [Lx_20.out.2.2]; exact HPN.out)
    rw [Lx_20.out.2.2] at hv1
    subst hv1
    have BR_1_3 := Aside0.mk (below_step BR_1.out hb)
    have GH := Aside0.mk (show w20.heap.size ≤ gh from Nat.le_trans BR_1.out.size hg)
    have hsl := SL_1.out
    have NLH := Aside0.mk (show gl ≠ gh by omega)
    have RL_1_3 := Aside0.mk (Kd.R_mono (Kd.R_below (Kd.R_bound V_1.out) hb) (ok' := fun k => k ≠ gh) (fun k hk => by have := hk.2.2.1; omega))
    have RH_1_3 := Aside0.mk (Kd.R_lower (Kd.R_mono (Kd.R_bound hR) (ok' := fun k => k ≠ gl) (fun k hk => by have := hk.2.1; omega)) BR_1.out.size)
    clear hsl
    clear hR hb hg hlt
    refine hK.out _ _ ⟨(blk_cell (blk_below DX_20.out BR_1_3.out) 0).trans rfl, (blk_cell (blk_below DX_20.out BR_1_3.out) 1).trans rfl, (blk_cell (blk_below DX_20.out BR_1_3.out) 2).trans rfl⟩ (fun hHeld => ?_)
    clear hK K
    refine norm_ (a' := ?_) ?_ ?_
    rotate_left
    ·show Act.put _ (some 70) _ = _
     simp only [Act.put, List.setIfInBounds_toArray, List.set_cons_zero, List.set_cons_succ, i64_w, i32_w]
     rfl
    refine two_ (i := 4) (j := 5) (Ni := some 7) (Nj := some 8) #[tt_,tt_,tt_,tt_,tt_,ff_,ff_,ff_] #[tt_,tt_,tt_,tt_,ff_,tt_,ff_,ff_] rfl rfl rfl rfl (by kernel_rfl) (by decide) (by decide) (fun K hK => ?_) (fun K hK => ?_)
    ·skip
     refine alloc_step (cs := #[.int .i64 0, .int .i64 0, .slice none 0 0]) (t := 25) (by rfl) rfl (by first | (go_simp; done) | (go_simp; rfl)) ?_
     intro g7 hg
     have BR_1_3_4 := Aside0.mk (below_alloc BR_1_3.out (.cells #[.int .i64 0, .int .i64 0, .slice none 0 0] 25 (0, 0)))
     have Z7_1_3_4 := Aside0.mk (blk_new w_1_3 (.cells #[.int .i64 0, .int .i64 0, .slice none 0 0] 25 (0, 0)))
     rw [← hg] at Z7_1_3_4
     have G7 := Aside0.mk (show w20.heap.size ≤ g7 by rw [hg]; exact BR_1_3.out.size)
     have RL_1_3_4 := Aside0.mk (Kd.R_below RL_1_3.out (below_alloc (Below.refl _ w_1_3) (.cells #[.int .i64 0, .int .i64 0, .slice none 0 0] 25 (0, 0))))
     have RH_1_3_4 := Aside0.mk (Kd.R_below RH_1_3.out (below_alloc (Below.refl _ w_1_3) (.cells #[.int .i64 0, .int .i64 0, .slice none 0 0] 25 (0, 0))))
     clear hg
     generalize w_1_3.alloc (.cells #[.int .i64 0, .int .i64 0, .slice none 0 0] 25 (0, 0)) = w_1_3_4 at *
     refine hK.out _ _ ⟨(blk_cell (blk_below DX_20.out BR_1_3_4.out) 0).trans rfl, (blk_cell (blk_below DX_20.out BR_1_3_4.out) 1).trans rfl, (blk_cell (blk_below DX_20.out BR_1_3_4.out) 2).trans rfl⟩ (fun hHeld => ?_)
     clear hK K
     refine norm_ (a' := ?_) ?_ ?_
     rotate_left
     ·show Act.put _ (some 7) _ = _
      simp only [Act.put, List.setIfInBounds_toArray, List.set_cons_zero, List.set_cons_succ, i64_w, i32_w]
      rfl
     refine one_ (i := 5) (N := some 8) #[tt_,tt_,tt_,tt_,tt_,tt_,ff_,ff_] rfl rfl (by kernel_rfl) (by decide) (fun K hK => ?_)
     refine alloc_step (cs := #[.int .i64 0, .int .i64 0, .slice none 0 0]) (t := 25) (by rfl) rfl (by first | (go_simp; done) | (go_simp; rfl)) ?_
     intro g8 hg
     have BR_1_3_4_5 := Aside0.mk (below_alloc BR_1_3_4.out (.cells #[.int .i64 0, .int .i64 0, .slice none 0 0] 25 (0, 0)))
     have Z8_1_3_4_5 := Aside0.mk (blk_new w_1_3_4 (.cells #[.int .i64 0, .int .i64 0, .slice none 0 0] 25 (0, 0)))
     rw [← hg] at Z8_1_3_4_5
     have G8 := Aside0.mk (show w20.heap.size ≤ g8 by rw [hg]; exact BR_1_3_4.out.size)
     have NE := Aside0.mk (show g7 ≠ g8 by have h9 := blk_lt Z7_1_3_4.out; omega)
     have Z7_1_3_4_5 := Aside0.mk (blk_below Z7_1_3_4.out (below_alloc (Below.refl _ w_1_3_4) (.cells #[.int .i64 0, .int .i64 0, .slice none 0 0] 25 (0, 0))))
     have RL_1_3_4_5 := Aside0.mk (Kd.R_below RL_1_3_4.out (below_alloc (Below.refl _ w_1_3_4) (.cells #[.int .i64 0, .int .i64 0, .slice none 0 0] 25 (0, 0))))
     have RH_1_3_4_5 := Aside0.mk (Kd.R_below RH_1_3_4.out (below_alloc (Below.refl _ w_1_3_4) (.cells #[.int .i64 0, .int .i64 0, .slice none 0 0] 25 (0, 0))))
     clear hg
     generalize w_1_3_4.alloc (.cells #[.int .i64 0, .int .i64 0, .slice none 0 0] 25 (0, 0)) = w_1_3_4_5 at *
     refine hK.out _ _ ⟨(blk_cell (blk_below DX_20.out BR_1_3_4_5.out) 0).trans rfl, (blk_cell (blk_below DX_20.out BR_1_3_4_5.out) 1).trans rfl, (blk_cell (blk_below DX_20.out BR_1_3_4_5.out) 2).trans rfl⟩ (fun hHeld => ?_)
     clear hK K
     refine norm_ (a' := ?_) ?_ ?_
     rotate_left
     ·show Act.put _ (some 8) _ = _
      simp only [Act.put, List.setIfInBounds_toArray, List.set_cons_zero, List.set_cons_succ, i64_w, i32_w]
      rfl
     exact norm_ (by rfl) (hCont (gl, cl, gh, ch, g7, g8) _ ⟨RL_1_3_4_5.out, RH_1_3_4_5.out, Z7_1_3_4_5.out, Z8_1_3_4_5.out, NE.out, G7.out, G8.out, GL.out, GH.out, NLH.out, BR_1_3_4_5.out⟩)
    ·skip
     refine alloc_step (cs := #[.int .i64 0, .int .i64 0, .slice none 0 0]) (t := 25) (by rfl) rfl (by first | (go_simp; done) | (go_simp; rfl)) ?_
     intro g8 hg
     have BR_1_3_5 := Aside0.mk (below_alloc BR_1_3.out (.cells #[.int .i64 0, .int .i64 0, .slice none 0 0] 25 (0, 0)))
     have Z8_1_3_5 := Aside0.mk (blk_new w_1_3 (.cells #[.int .i64 0, .int .i64 0, .slice none 0 0] 25 (0, 0)))
     rw [← hg] at Z8_1_3_5
     have G8 := Aside0.mk (show w20.heap.size ≤ g8 by rw [hg]; exact BR_1_3.out.size)
     have RL_1_3_5 := Aside0.mk (Kd.R_below RL_1_3.out (below_alloc (Below.refl _ w_1_3) (.cells #[.int .i64 0, .int .i64 0, .slice none 0 0] 25 (0, 0))))
     have RH_1_3_5 := Aside0.mk (Kd.R_below RH_1_3.out (below_alloc (Below.refl _ w_1_3) (.cells #[.int .i64 0, .int .i64 0, .slice none 0 0] 25 (0, 0))))
     clear hg
     generalize w_1_3.alloc (.cells #[.int .i64 0, .int .i64 0, .slice none 0 0] 25 (0, 0)) = w_1_3_5 at *
     refine hK.out _ _ ⟨(blk_cell (blk_below DX_20.out BR_1_3_5.out) 0).trans rfl, (blk_cell (blk_below DX_20.out BR_1_3_5.out) 1).trans rfl, (blk_cell (blk_below DX_20.out BR_1_3_5.out) 2).trans rfl⟩ (fun hHeld => ?_)
     clear hK K
     refine norm_ (a' := ?_) ?_ ?_
     rotate_left
     ·show Act.put _ (some 8) _ = _
      simp only [Act.put, List.setIfInBounds_toArray, List.set_cons_zero, List.set_cons_succ, i64_w, i32_w]
      rfl
     refine one_ (i := 4) (N := some 7) #[tt_,tt_,tt_,tt_,tt_,tt_,ff_,ff_] rfl rfl (by kernel_rfl) (by decide) (fun K hK => ?_)
     refine alloc_step (cs := #[.int .i64 0, .int .i64 0, .slice none 0 0]) (t := 25) (by rfl) rfl (by first | (go_simp; done) | (go_simp; rfl)) ?_
     intro g7 hg
     have BR_1_3_5_4 := Aside0.mk (below_alloc BR_1_3_5.out (.cells #[.int .i64 0, .int .i64 0, .slice none 0 0] 25 (0, 0)))
     have Z7_1_3_5_4 := Aside0.mk (blk_new w_1_3_5 (.cells #[.int .i64 0, .int .i64 0, .slice none 0 0] 25 (0, 0)))
     rw [← hg] at Z7_1_3_5_4
     have G7 := Aside0.mk (show w20.heap.size ≤ g7 by rw [hg]; exact BR_1_3_5.out.size)
     have NE := Aside0.mk (show g7 ≠ g8 by have h9 := blk_lt Z8_1_3_5.out; omega)
     have Z8_1_3_5_4 := Aside0.mk (blk_below Z8_1_3_5.out (below_alloc (Below.refl _ w_1_3_5) (.cells #[.int .i64 0, .int .i64 0, .slice none 0 0] 25 (0, 0))))
     have RL_1_3_5_4 := Aside0.mk (Kd.R_below RL_1_3_5.out (below_alloc (Below.refl _ w_1_3_5) (.cells #[.int .i64 0, .int .i64 0, .slice none 0 0] 25 (0, 0))))
     have RH_1_3_5_4 := Aside0.mk (Kd.R_below RH_1_3_5.out (below_alloc (Below.refl _ w_1_3_5) (.cells #[.int .i64 0, .int .i64 0, .slice none 0 0] 25 (0, 0))))
     clear hg
     generalize w_1_3_5.alloc (.cells #[.int .i64 0, .int .i64 0, .slice none 0 0] 25 (0, 0)) = w_1_3_5_4 at *
     refine hK.out _ _ ⟨(blk_cell (blk_below DX_20.out BR_1_3_5_4.out) 0).trans rfl, (blk_cell (blk_below DX_20.out BR_1_3_5_4.out) 1).trans rfl, (blk_cell (blk_below DX_20.out BR_1_3_5_4.out) 2).trans rfl⟩ (fun hHeld => ?_)
     clear hK K
     refine norm_ (a' := ?_) ?_ ?_
     rotate_left
     ·show Act.put _ (some 7) _ = _
      simp only [Act.put, List.setIfInBounds_toArray, List.set_cons_zero, List.set_cons_succ, i64_w, i32_w]
      rfl
     exact norm_ (by rfl) (hCont (gl, cl, gh, ch, g7, g8) _ ⟨RL_1_3_5_4.out, RH_1_3_5_4.out, Z7_1_3_5_4.out, Z8_1_3_5_4.out, NE.out, G7.out, G8.out, GL.out, GH.out, NLH.out, BR_1_3_5_4.out⟩)
   ·skip
    refine alloc_step (cs := #[.int .i64 0, .int .i64 0, .slice none 0 0]) (t := 25) (by rfl) rfl (by first | (go_simp; done) | (go_simp; rfl)) ?_
    intro g7 hg
    have BR_1_4 := Aside0.mk (below_alloc BR_1.out (.cells #[.int .i64 0, .int .i64 0, .slice none 0 0] 25 (0, 0)))
    have Z7_1_4 := Aside0.mk (blk_new w_1 (.cells #[.int .i64 0, .int .i64 0, .slice none 0 0] 25 (0, 0)))
    rw [← hg] at Z7_1_4
    have G7 := Aside0.mk (show w20.heap.size ≤ g7 by rw [hg]; exact BR_1.out.size)
    have V_1_4 := Aside0.mk (Kd.R_below V_1.out (below_alloc (Below.refl _ w_1) (.cells #[.int .i64 0, .int .i64 0, .slice none 0 0] 25 (0, 0))))
    have SL_1_4 := Aside0.mk (Nat.lt_of_lt_of_le SL_1.out (below_alloc (Below.refl _ w_1) (.cells #[.int .i64 0, .int .i64 0, .slice none 0 0] 25 (0, 0))).size)
    clear hg
    generalize w_1.alloc (.cells #[.int .i64 0, .int .i64 0, .slice none 0 0] 25 (0, 0)) = w_1_4 at *
    refine hK.out _ _ ⟨(blk_cell (blk_below DX_20.out BR_1_4.out) 0).trans rfl, (blk_cell (blk_below DX_20.out BR_1_4.out) 1).trans rfl, (blk_cell (blk_below DX_20.out BR_1_4.out) 2).trans rfl⟩ (fun hHeld => ?_)
    clear hK K
    refine norm_ (a' := ?_) ?_ ?_
    rotate_left
    ·show Act.put _ (some 7) _ = _
     simp only [Act.put, List.setIfInBounds_toArray, List.set_cons_zero, List.set_cons_succ, i64_w, i32_w]
     rfl
    refine two_ (i := 3) (j := 5) (Ni := some 70) (Nj := some 8) #[tt_,tt_,tt_,tt_,tt_,ff_,ff_,ff_] #[tt_,tt_,tt_,ff_,tt_,tt_,ff_,ff_] rfl rfl rfl rfl (by kernel_rfl) (by decide) (by decide) (fun K hK => ?_) (fun K hK => ?_)
    ·skip
     refine goes_ Try.func27 (by kernel_rfl) rfl #[.agg #[.int .i64 (W : Int), .int .i64 (H : Int), .slice A n cap]] (by rfl) rfl rfl (by (try simp only [List.map_toArray, List.map_cons, List.map_nil]); rfl) ?_
     refine (Copy_calls (W : Int) (H : Int) A n cap xs _ Lx_20.out.2.2 (Lx_20.out.below BR_1_4.out).1 HL.out).mono ?_
     rintro e w_1_4_3 ⟨v1, rfl, hR, hb⟩
     refine ⟨_, rfl, ?_⟩
     obtain ⟨gh, ch, hv1, hg, hlt, _⟩ := Kd.R_form hR (by rw [Lx_20.out.2.2]; exact HPN.out)
     rw [Lx_20.out.2.2] at hv1
     subst hv1
     have BR_1_4_3 := Aside0.mk (below_step BR_1_4.out hb)
     have GH := Aside0.mk (show w20.heap.size ≤ gh from Nat.le_trans BR_1_4.out.size hg)
     have hsl := SL_1_4.out
     have NLH := Aside0.mk (show gl ≠ gh by omega)
     have RL_1_4_3 := Aside0.mk (Kd.R_mono (Kd.R_below (Kd.R_bound V_1_4.out) hb) (ok' := fun k => k ≠ gh) (fun k hk => by have := hk.2.2.1; omega))
     have RH_1_4_3 := Aside0.mk (Kd.R_lower (Kd.R_mono (Kd.R_bound hR) (ok' := fun k => k ≠ gl) (fun k hk => by have := hk.2.1; omega)) BR_1_4.out.size)
     clear hsl
     have Z7_1_4_3 := Aside0.mk (blk_below Z7_1_4.out hb)
     clear hR hb hg hlt
     refine hK.out _ _ ⟨(blk_cell (blk_below DX_20.out BR_1_4_3.out) 0).trans rfl, (blk_cell (blk_below DX_20.out BR_1_4_3.out) 1).trans rfl, (blk_cell (blk_below DX_20.out BR_1_4_3.out) 2).trans rfl⟩ (fun hHeld => ?_)
     clear hK K
     refine norm_ (a' := ?_) ?_ ?_
     rotate_left
     ·show Act.put _ (some 70) _ = _
      simp only [Act.put, List.setIfInBounds_toArray, List.set_cons_zero, List.set_cons_succ, i64_w, i32_w]
      rfl
     refine one_ (i := 5) (N := some 8) #[tt_,tt_,tt_,tt_,tt_,tt_,ff_,ff_] rfl rfl (by kernel_rfl) (by decide) (fun K hK => ?_)
     refine alloc_step (cs := #[.int .i64 0, .int .i64 0, .slice none 0 0]) (t := 25) (by rfl) rfl (by first | (go_simp; done) | (go_simp; rfl)) ?_
     intro g8 hg
     have BR_1_4_3_5 := Aside0.mk (below_alloc BR_1_4_3.out (.cells #[.int .i64 0, .int .i64 0, .slice none 0 0] 25 (0, 0)))
     have Z8_1_4_3_5 := Aside0.mk (blk_new w_1_4_3 (.cells #[.int .i64 0, .int .i64 0, .slice none 0 0] 25 (0, 0)))
     rw [← hg] at Z8_1_4_3_5
     have G8 := Aside0.mk (show w20.heap.size ≤ g8 by rw [hg]; exact BR_1_4_3.out.size)
     have NE := Aside0.mk (show g7 ≠ g8 by have h9 := blk_lt Z7_1_4_3.out; omega)
     have Z7_1_4_3_5 := Aside0.mk (blk_below Z7_1_4_3.out (below_alloc (Below.refl _ w_1_4_3) (.cells #[.int .i64 0, .int .i64 0, .slice none 0 0] 25 (0, 0))))
     have RL_1_4_3_5 := Aside0.mk (Kd.R_below RL_1_4_3.out (below_alloc (Below.refl _ w_1_4_3) (.cells #[.int .i64 0, .int .i64 0, .slice none 0 0] 25 (0, 0))))
     have RH_1_4_3_5 := Aside0.mk (Kd.R_below RH_1_4_3.out (below_alloc (Below.refl _ w_1_4_3) (.cells #[.int .i64 0, .int .i64 0, .slice none 0 0] 25 (0, 0))))
     clear hg
     generalize w_1_4_3.alloc (.cells #[.int .i64 0, .int .i64 0, .slice none 0 0] 25 (0, 0)) = w_1_4_3_5 at *
     refine hK.out _ _ ⟨(blk_cell (blk_below DX_20.out BR_1_4_3_5.out) 0).trans rfl, (blk_cell (blk_below DX_20.out BR_1_4_3_5.out) 1).trans rfl, (blk_cell (blk_below DX_20.out BR_1_4_3_5.out) 2).trans rfl⟩ (fun hHeld => ?_)
     clear hK K
     refine norm_ (a' := ?_) ?_ ?_
     rotate_left
     ·show Act.put _ (some 8) _ = _
      simp only [Act.put, List.setIfInBounds_toArray, List.set_cons_zero, List.set_cons_succ, i64_w, i32_w]
      rfl
     exact norm_ (by rfl) (hCont (gl, cl, gh, ch, g7, g8) _ ⟨RL_1_4_3_5.out, RH_1_4_3_5.out, Z7_1_4_3_5.out, Z8_1_4_3_5.out, NE.out, G7.out, G8.out, GL.out, GH.out, NLH.out, BR_1_4_3_5.out⟩)
    ·skip
     refine alloc_step (cs := #[.int .i64 0, .int .i64 0, .slice none 0 0]) (t := 25) (by rfl) rfl (by first | (go_simp; done) | (go_simp; rfl)) ?_
     intro g8 hg
     have BR_1_4_5 := Aside0.mk (below_alloc BR_1_4.out (.cells #[.int .i64 0, .int .i64 0, .slice none 0 0] 25 (0, 0)))
     have Z8_1_4_5 := Aside0.mk (blk_new w_1_4 (.cells #[.int .i64 0, .int .i64 0, .slice none 0 0] 25 (0, 0)))
     rw [← hg] at Z8_1_4_5
     have G8 := Aside0.mk (show w20.heap.size ≤ g8 by rw [hg]; exact BR_1_4.out.size)
     have NE := Aside0.mk (show g7 ≠ g8 by have h9 := blk_lt Z7_1_4.out; omega)
     have Z7_1_4_5 := Aside0.mk (blk_below Z7_1_4.out (below_alloc (Below.refl _ w_1_4) (.cells #[.int .i64 0, .int .i64 0, .slice none 0 0] 25 (0, 0))))
     have V_1_4_5 := Aside0.mk (Kd.R_below V_1_4.out (below_alloc (Below.refl _ w_1_4) (.cells #[.int .i64 0, .int .i64 0, .slice none 0 0] 25 (0, 0))))
     have SL_1_4_5 := Aside0.mk (Nat.lt_of_lt_of_le SL_1_4.out (below_alloc (Below.refl _ w_1_4) (.cells #[.int .i64 0, .int .i64 0, .slice none 0 0] 25 (0, 0))).size)
     clear hg
     generalize w_1_4.alloc (.cells #[.int .i64 0, .int .i64 0, .slice none 0 0] 25 (0, 0)) = w_1_4_5 at *
     refine hK.out _ _ ⟨(blk_cell (blk_below DX_20.out BR_1_4_5.out) 0).trans rfl, (blk_cell (blk_below DX_20.out BR_1_4_5.out) 1).trans rfl, (blk_cell (blk_below DX_20.out BR_1_4_5.out) 2).trans rfl⟩ (fun hHeld => ?_)
     clear hK K
     refine norm_ (a' := ?_) ?_ ?_
     rotate_left
     ·show Act.put _ (some 8) _ = _
      simp only [Act.put, List.setIfInBounds_toArray, List.set_cons_zero, List.set_cons_succ, i64_w, i32_w]
      rfl
     refine one_ (i := 3) (N := some 70) #[tt_,tt_,tt_,tt_,tt_,tt_,ff_,ff_] rfl rfl (by kernel_rfl) (by decide) (fun K hK => ?_)
     refine goes_ Try.func27 (by kernel_rfl) rfl #[.agg #[.int .i64 (W : Int), .int .i64 (H : Int), .slice A n cap]] (by rfl) rfl rfl (by (try simp only [List.map_toArray, List.map_cons, List.map_nil]); rfl) ?_
     refine (Copy_calls (W : Int) (H : Int) A n cap xs _ Lx_20.out.2.2 (Lx_20.out.below BR_1_4_5.out).1 HL.out).mono ?_
     rintro e w_1_4_5_3 ⟨v1, rfl, hR, hb⟩
     refine ⟨_, rfl, ?_⟩
     obtain ⟨gh, ch, hv1, hg, hlt, _⟩ := Kd.R_form hR (by rw [Lx_20.out.2.2]; exact HPN.out)
     rw [Lx_20.out.2.2] at hv1
     subst hv1
     have BR_1_4_5_3 := Aside0.mk (below_step BR_1_4_5.out hb)
     have GH := Aside0.mk (show w20.heap.size ≤ gh from Nat.le_trans BR_1_4_5.out.size hg)
     have hsl := SL_1_4_5.out
     have NLH := Aside0.mk (show gl ≠ gh by omega)
     have RL_1_4_5_3 := Aside0.mk (Kd.R_mono (Kd.R_below (Kd.R_bound V_1_4_5.out) hb) (ok' := fun k => k ≠ gh) (fun k hk => by have := hk.2.2.1; omega))
     have RH_1_4_5_3 := Aside0.mk (Kd.R_lower (Kd.R_mono (Kd.R_bound hR) (ok' := fun k => k ≠ gl) (fun k hk => by have := hk.2.1; omega)) BR_1_4_5.out.size)
     clear hsl
     have Z7_1_4_5_3 := Aside0.mk (blk_below Z7_1_4_5.out hb)
     have Z8_1_4_5_3 := Aside0.mk (blk_below Z8_1_4_5.out hb)
     clear hR hb hg hlt
     refine hK.out _ _ ⟨(blk_cell (blk_below DX_20.out BR_1_4_5_3.out) 0).trans rfl, (blk_cell (blk_below DX_20.out BR_1_4_5_3.out) 1).trans rfl, (blk_cell (blk_below DX_20.out BR_1_4_5_3.out) 2).trans rfl⟩ (fun hHeld => ?_)
     clear hK K
     refine norm_ (a' := ?_) ?_ ?_
     rotate_left
     ·show Act.put _ (some 70) _ = _
      simp only [Act.put, List.setIfInBounds_toArray, List.set_cons_zero, List.set_cons_succ, i64_w, i32_w]
      rfl
     exact norm_ (by rfl) (hCont (gl, cl, gh, ch, g7, g8) _ ⟨RL_1_4_5_3.out, RH_1_4_5_3.out, Z7_1_4_5_3.out, Z8_1_4_5_3.out, NE.out, G7.out, G8.out, GL.out, GH.out, NLH.out, BR_1_4_5_3.out⟩)
   ·skip
    refine alloc_step (cs := #[.int .i64 0, .int .i64 0, .slice none 0 0]) (t := 25) (by rfl) rfl (by first | (go_simp; done) | (go_simp; rfl)) ?_
    intro g8 hg
    have BR_1_5 := Aside0.mk (below_alloc BR_1.out (.cells #[.int .i64 0, .int .i64 0, .slice none 0 0] 25 (0, 0)))
    have Z8_1_5 := Aside0.mk (blk_new w_1 (.cells #[.int .i64 0, .int .i64 0, .slice none 0 0] 25 (0, 0)))
    rw [← hg] at Z8_1_5
    have G8 := Aside0.mk (show w20.heap.size ≤ g8 by rw [hg]; exact BR_1.out.size)
    have V_1_5 := Aside0.mk (Kd.R_below V_1.out (below_alloc (Below.refl _ w_1) (.cells #[.int .i64 0, .int .i64 0, .slice none 0 0] 25 (0, 0))))
    have SL_1_5 := Aside0.mk (Nat.lt_of_lt_of_le SL_1.out (below_alloc (Below.refl _ w_1) (.cells #[.int .i64 0, .int .i64 0, .slice none 0 0] 25 (0, 0))).size)
    clear hg
    generalize w_1.alloc (.cells #[.int .i64 0, .int .i64 0, .slice none 0 0] 25 (0, 0)) = w_1_5 at *
    refine hK.out _ _ ⟨(blk_cell (blk_below DX_20.out BR_1_5.out) 0).trans rfl, (blk_cell (blk_below DX_20.out BR_1_5.out) 1).trans rfl, (blk_cell (blk_below DX_20.out BR_1_5.out) 2).trans rfl⟩ (fun hHeld => ?_)
    clear hK K
    refine norm_ (a' := ?_) ?_ ?_
    rotate_left
    ·show Act.put _ (some 8) _ = _
     simp only [Act.put, List.setIfInBounds_toArray, List.set_cons_zero, List.set_cons_succ, i64_w, i32_w]
     rfl
    refine two_ (i := 3) (j := 4) (Ni := some 70) (Nj := some 7) #[tt_,tt_,tt_,tt_,ff_,tt_,ff_,ff_] #[tt_,tt_,tt_,ff_,tt_,tt_,ff_,ff_] rfl rfl rfl rfl (by kernel_rfl) (by decide) (by decide) (fun K hK => ?_) (fun K hK => ?_)
    ·skip
     refine goes_ Try.func27 (by kernel_rfl) rfl #[.agg #[.int .i64 (W : Int), .int .i64 (H : Int), .slice A n cap]] (by rfl) rfl rfl (by (try simp only [List.map_toArray, List.map_cons, List.map_nil]); rfl) ?_
     refine (Copy_calls (W : Int) (H : Int) A n cap xs _ Lx_20.out.2.2 (Lx_20.out.below BR_1_5.out).1 HL.out).mono ?_
     rintro e w_1_5_3 ⟨v1, rfl, hR, hb⟩
     refine ⟨_, rfl, ?_⟩
     obtain ⟨gh, ch, hv1, hg, hlt, _⟩ := Kd.R_form hR (by rw [Lx_20.out.2.2]; exact HPN.out)
     rw [Lx_20.out.2.2] at hv1
     subst hv1
     have BR_1_5_3 := Aside0.mk (below_step BR_1_5.out hb)
     have GH := Aside0.mk (show w20.heap.size ≤ gh from Nat.le_trans BR_1_5.out.size hg)
     have hsl := SL_1_5.out
     have NLH := Aside0.mk (show gl ≠ gh by omega)
     have RL_1_5_3 := Aside0.mk (Kd.R_mono (Kd.R_below (Kd.R_bound V_1_5.out) hb) (ok' := fun k => k ≠ gh) (fun k hk => by have := hk.2.2.1; omega))
     have RH_1_5_3 := Aside0.mk (Kd.R_lower (Kd.R_mono (Kd.R_bound hR) (ok' := fun k => k ≠ gl) (fun k hk => by have := hk.2.1; omega)) BR_1_5.out.size)
     clear hsl
     have Z8_1_5_3 := Aside0.mk (blk_below Z8_1_5.out hb)
     clear hR hb hg hlt
     refine hK.out _ _ ⟨(blk_cell (blk_below DX_20.out BR_1_5_3.out) 0).trans rfl, (blk_cell (blk_below DX_20.out BR_1_5_3.out) 1).trans rfl, (blk_cell (blk_below DX_20.out BR_1_5_3.out) 2).trans rfl⟩ (fun hHeld => ?_)
     clear hK K
     refine norm_ (a' := ?_) ?_ ?_
     rotate_left
     ·show Act.put _ (some 70) _ = _
      simp only [Act.put, List.setIfInBounds_toArray, List.set_cons_zero, List.set_cons_succ, i64_w, i32_w]
      rfl
     refine one_ (i := 4) (N := some 7) #[tt_,tt_,tt_,tt_,tt_,tt_,ff_,ff_] rfl rfl (by kernel_rfl) (by decide) (fun K hK => ?_)
     refine alloc_step (cs := #[.int .i64 0, .int .i64 0, .slice none 0 0]) (t := 25) (by rfl) rfl (by first | (go_simp; done) | (go_simp; rfl)) ?_
     intro g7 hg
     have BR_1_5_3_4 := Aside0.mk (below_alloc BR_1_5_3.out (.cells #[.int .i64 0, .int .i64 0, .slice none 0 0] 25 (0, 0)))
     have Z7_1_5_3_4 := Aside0.mk (blk_new w_1_5_3 (.cells #[.int .i64 0, .int .i64 0, .slice none 0 0] 25 (0, 0)))
     rw [← hg] at Z7_1_5_3_4
     have G7 := Aside0.mk (show w20.heap.size ≤ g7 by rw [hg]; exact BR_1_5_3.out.size)
     have NE := Aside0.mk (show g7 ≠ g8 by have h9 := blk_lt Z8_1_5_3.out; omega)
     have Z8_1_5_3_4 := Aside0.mk (blk_below Z8_1_5_3.out (below_alloc (Below.refl _ w_1_5_3) (.cells #[.int .i64 0, .int .i64 0, .slice none 0 0] 25 (0, 0))))
     have RL_1_5_3_4 := Aside0.mk (Kd.R_below RL_1_5_3.out (below_alloc (Below.refl _ w_1_5_3) (.cells #[.int .i64 0, .int .i64 0, .slice none 0 0] 25 (0, 0))))
     have RH_1_5_3_4 := Aside0.mk (Kd.R_below RH_1_5_3.out (below_alloc (Below.refl _ w_1_5_3) (.cells #[.int .i64 0, .int .i64 0, .slice none 0 0] 25 (0, 0))))
     clear hg
     generalize w_1_5_3.alloc (.cells #[.int .i64 0, .int .i64 0, .slice none 0 0] 25 (0, 0)) = w_1_5_3_4 at *
     refine hK.out _ _ ⟨(blk_cell (blk_below DX_20.out BR_1_5_3_4.out) 0).trans rfl, (blk_cell (blk_below DX_20.out BR_1_5_3_4.out) 1).trans rfl, (blk_cell (blk_below DX_20.out BR_1_5_3_4.out) 2).trans rfl⟩ (fun hHeld => ?_)
     clear hK K
     refine norm_ (a' := ?_) ?_ ?_
     rotate_left
     ·show Act.put _ (some 7) _ = _
      simp only [Act.put, List.setIfInBounds_toArray, List.set_cons_zero, List.set_cons_succ, i64_w, i32_w]
      rfl
     exact norm_ (by rfl) (hCont (gl, cl, gh, ch, g7, g8) _ ⟨RL_1_5_3_4.out, RH_1_5_3_4.out, Z7_1_5_3_4.out, Z8_1_5_3_4.out, NE.out, G7.out, G8.out, GL.out, GH.out, NLH.out, BR_1_5_3_4.out⟩)
    ·skip
     refine alloc_step (cs := #[.int .i64 0, .int .i64 0, .slice none 0 0]) (t := 25) (by rfl) rfl (by first | (go_simp; done) | (go_simp; rfl)) ?_
     intro g7 hg
     have BR_1_5_4 := Aside0.mk (below_alloc BR_1_5.out (.cells #[.int .i64 0, .int .i64 0, .slice none 0 0] 25 (0, 0)))
     have Z7_1_5_4 := Aside0.mk (blk_new w_1_5 (.cells #[.int .i64 0, .int .i64 0, .slice none 0 0] 25 (0, 0)))
     rw [← hg] at Z7_1_5_4
     have G7 := Aside0.mk (show w20.heap.size ≤ g7 by rw [hg]; exact BR_1_5.out.size)
     have NE := Aside0.mk (show g7 ≠ g8 by have h9 := blk_lt Z8_1_5.out; omega)
     have Z8_1_5_4 := Aside0.mk (blk_below Z8_1_5.out (below_alloc (Below.refl _ w_1_5) (.cells #[.int .i64 0, .int .i64 0, .slice none 0 0] 25 (0, 0))))
     have V_1_5_4 := Aside0.mk (Kd.R_below V_1_5.out (below_alloc (Below.refl _ w_1_5) (.cells #[.int .i64 0, .int .i64 0, .slice none 0 0] 25 (0, 0))))
     have SL_1_5_4 := Aside0.mk (Nat.lt_of_lt_of_le SL_1_5.out (below_alloc (Below.refl _ w_1_5) (.cells #[.int .i64 0, .int .i64 0, .slice none 0 0] 25 (0, 0))).size)
     clear hg
     generalize w_1_5.alloc (.cells #[.int .i64 0, .int .i64 0, .slice none 0 0] 25 (0, 0)) = w_1_5_4 at *
     refine hK.out _ _ ⟨(blk_cell (blk_below DX_20.out BR_1_5_4.out) 0).trans rfl, (blk_cell (blk_below DX_20.out BR_1_5_4.out) 1).trans rfl, (blk_cell (blk_below DX_20.out BR_1_5_4.out) 2).trans rfl⟩ (fun hHeld => ?_)
     clear hK K
     refine norm_ (a' := ?_) ?_ ?_
     rotate_left
     ·show Act.put _ (some 7) _ = _
      simp only [Act.put, List.setIfInBounds_toArray, List.set_cons_zero, List.set_cons_succ, i64_w, i32_w]
      rfl
     refine one_ (i := 3) (N := some 70) #[tt_,tt_,tt_,tt_,tt_,tt_,ff_,ff_] rfl rfl (by kernel_rfl) (by decide) (fun K hK => ?_)
     refine goes_ Try.func27 (by kernel_rfl) rfl #[.agg #[.int .i64 (W : Int), .int .i64 (H : Int), .slice A n cap]] (by rfl) rfl rfl (by (try simp only [List.map_toArray, List.map_cons, List.map_nil]); rfl) ?_
     refine (Copy_calls (W : Int) (H : Int) A n cap xs _ Lx_20.out.2.2 (Lx_20.out.below BR_1_5_4.out).1 HL.out).mono ?_
     rintro e w_1_5_4_3 ⟨v1, rfl, hR, hb⟩
     refine ⟨_, rfl, ?_⟩
     obtain ⟨gh, ch, hv1, hg, hlt, _⟩ := Kd.R_form hR (by rw [Lx_20.out.2.2]; exact HPN.out)
     rw [Lx_20.out.2.2] at hv1
     subst hv1
     have BR_1_5_4_3 := Aside0.mk (below_step BR_1_5_4.out hb)
     have GH := Aside0.mk (show w20.heap.size ≤ gh from Nat.le_trans BR_1_5_4.out.size hg)
     have hsl := SL_1_5_4.out
     have NLH := Aside0.mk (show gl ≠ gh by omega)
     have RL_1_5_4_3 := Aside0.mk (Kd.R_mono (Kd.R_below (Kd.R_bound V_1_5_4.out) hb) (ok' := fun k => k ≠ gh) (fun k hk => by have := hk.2.2.1; omega))
     have RH_1_5_4_3 := Aside0.mk (Kd.R_lower (Kd.R_mono (Kd.R_bound hR) (ok' := fun k => k ≠ gl) (fun k hk => by have := hk.2.1; omega)) BR_1_5_4.out.size)
     clear hsl
     have Z7_1_5_4_3 := Aside0.mk (blk_below Z7_1_5_4.out hb)
     have Z8_1_5_4_3 := Aside0.mk (blk_below Z8_1_5_4.out hb)
     clear hR hb hg hlt
     refine hK.out _ _ ⟨(blk_cell (blk_below DX_20.out BR_1_5_4_3.out) 0).trans rfl, (blk_cell (blk_below DX_20.out BR_1_5_4_3.out) 1).trans rfl, (blk_cell (blk_below DX_20.out BR_1_5_4_3.out) 2).trans rfl⟩ (fun hHeld => ?_)
     clear hK K
     refine norm_ (a' := ?_) ?_ ?_
     rotate_left
     ·show Act.put _ (some 70) _ = _
      simp only [Act.put, List.setIfInBounds_toArray, List.set_cons_zero, List.set_cons_succ, i64_w, i32_w]
      rfl
     exact norm_ (by rfl) (hCont (gl, cl, gh, ch, g7, g8) _ ⟨RL_1_5_4_3.out, RH_1_5_4_3.out, Z7_1_5_4_3.out, Z8_1_5_4_3.out, NE.out, G7.out, G8.out, GL.out, GH.out, NLH.out, BR_1_5_4_3.out⟩)
  ·skip
   refine alloc_step (cs := #[.int .i64 0, .int .i64 0, .slice none 0 0]) (t := 25) (by rfl) rfl (by first | (go_simp; done) | (go_simp; rfl)) ?_
   intro g7 hg
   have BR_4 := Aside0.mk (below_alloc BR_.out (.cells #[.int .i64 0, .int .i64 0, .slice none 0 0] 25 (0, 0)))
   have Z7_4 := Aside0.mk (blk_new w20 (.cells #[.int .i64 0, .int .i64 0, .slice none 0 0] 25 (0, 0)))
   rw [← hg] at Z7_4
   have G7 := Aside0.mk (show w20.heap.size ≤ g7 by rw [hg]; exact BR_.out.size)
   clear hg
   generalize w20.alloc (.cells #[.int .i64 0, .int .i64 0, .slice none 0 0] 25 (0, 0)) = w_4 at *
   refine hK.out _ _ ⟨(blk_cell (blk_below DX_20.out BR_4.out) 0).trans rfl, (blk_cell (blk_below DX_20.out BR_4.out) 1).trans rfl, (blk_cell (blk_below DX_20.out BR_4.out) 2).trans rfl⟩ (fun hHeld => ?_)
   clear hK K
   refine norm_ (a' := ?_) ?_ ?_
   rotate_left
   ·show Act.put _ (some 7) _ = _
    simp only [Act.put, List.setIfInBounds_toArray, List.set_cons_zero, List.set_cons_succ, i64_w, i32_w]
    rfl
   refine two_ (i := 1) (j := 5) (Ni := some 68) (Nj := some 8) #[tt_,tt_,tt_,ff_,tt_,ff_,ff_,ff_] #[tt_,ff_,tt_,ff_,tt_,tt_,ff_,ff_] rfl rfl rfl rfl (by kernel_rfl) (by decide) (by decide) (fun K hK => ?_) (fun K hK => ?_)
   ·skip
    refine goes_ Try.func27 (by kernel_rfl) rfl #[.agg #[.int .i64 (W : Int), .int .i64 (H : Int), .slice A n cap]] (by rfl) rfl rfl (by (try simp only [List.map_toArray, List.map_cons, List.map_nil]); rfl) ?_
    refine (Copy_calls (W : Int) (H : Int) A n cap xs _ Lx_20.out.2.2 (Lx_20.out.below BR_4.out).1 HL.out).mono ?_
    rintro e w_4_1 ⟨v1, rfl, hR, hb⟩
    refine ⟨_, rfl, ?_⟩
    obtain ⟨gl, cl, hv1, hg, hlt, _⟩ := Kd.R_form hR (by rw [Lx_20.out.2.2]; exact HPN.out)
    rw [Lx_20.out.2.2] at hv1
    subst hv1
    have BR_4_1 := Aside0.mk (below_step BR_4.out hb)
    have GL := Aside0.mk (show w20.heap.size ≤ gl from Nat.le_trans BR_4.out.size hg)
    have V_4_1 := Aside0.mk (Kd.R_lower hR BR_4.out.size)
    have SL_4_1 := Aside0.mk (hlt)
    have Z7_4_1 := Aside0.mk (blk_below Z7_4.out hb)
    clear hR hb hg hlt
    refine hK.out _ _ ⟨(blk_cell (blk_below DX_20.out BR_4_1.out) 0).trans rfl, (blk_cell (blk_below DX_20.out BR_4_1.out) 1).trans rfl, (blk_cell (blk_below DX_20.out BR_4_1.out) 2).trans rfl⟩ (fun hHeld => ?_)
    clear hK K
    refine norm_ (a' := ?_) ?_ ?_
    rotate_left
    ·show Act.put _ (some 68) _ = _
     simp only [Act.put, List.setIfInBounds_toArray, List.set_cons_zero, List.set_cons_succ, i64_w, i32_w]
     rfl
    refine two_ (i := 3) (j := 5) (Ni := some 70) (Nj := some 8) #[tt_,tt_,tt_,tt_,tt_,ff_,ff_,ff_] #[tt_,tt_,tt_,ff_,tt_,tt_,ff_,ff_] rfl rfl rfl rfl (by kernel_rfl) (by decide) (by decide) (fun K hK => ?_) (fun K hK => ?_)
    ·skip
     refine goes_ Try.func27 (by kernel_rfl) rfl #[.agg #[.int .i64 (W : Int), .int .i64 (H : Int), .slice A n cap]] (by rfl) rfl rfl (by (try simp only [List.map_toArray, List.map_cons, List.map_nil]); rfl) ?_
     refine (Copy_calls (W : Int) (H : Int) A n cap xs _ Lx_20.out.2.2 (Lx_20.out.below BR_4_1.out).1 HL.out).mono ?_
     rintro e w_4_1_3 ⟨v1, rfl, hR, hb⟩
     refine ⟨_, rfl, ?_⟩
     obtain ⟨gh, ch, hv1, hg, hlt, _⟩ := Kd.R_form hR (by rw [Lx_20.out.2.2]; exact HPN.out)
     rw [Lx_20.out.2.2] at hv1
     subst hv1
     have BR_4_1_3 := Aside0.mk (below_step BR_4_1.out hb)
     have GH := Aside0.mk (show w20.heap.size ≤ gh from Nat.le_trans BR_4_1.out.size hg)
     have hsl := SL_4_1.out
     have NLH := Aside0.mk (show gl ≠ gh by omega)
     have RL_4_1_3 := Aside0.mk (Kd.R_mono (Kd.R_below (Kd.R_bound V_4_1.out) hb) (ok' := fun k => k ≠ gh) (fun k hk => by have := hk.2.2.1; omega))
     have RH_4_1_3 := Aside0.mk (Kd.R_lower (Kd.R_mono (Kd.R_bound hR) (ok' := fun k => k ≠ gl) (fun k hk => by have := hk.2.1; omega)) BR_4_1.out.size)
     clear hsl
     have Z7_4_1_3 := Aside0.mk (blk_below Z7_4_1.out hb)
     clear hR hb hg hlt
     refine hK.out _ _ ⟨(blk_cell (blk_below DX_20.out BR_4_1_3.out) 0).trans rfl, (blk_cell (blk_below DX_20.out BR_4_1_3.out) 1).trans rfl, (blk_cell (blk_below DX_20.out BR_4_1_3.out) 2).trans rfl⟩ (fun hHeld => ?_)
     clear hK K
     refine norm_ (a' := ?_) ?_ ?_
     rotate_left
     ·show Act.put _ (some 70) _ = _
      simp only [Act.put, List.setIfInBounds_toArray, List.set_cons_zero, List.set_cons_succ, i64_w, i32_w]
      rfl
     refine one_ (i := 5) (N := some 8) #[tt_,tt_,tt_,tt_,tt_,tt_,ff_,ff_] rfl rfl (by kernel_rfl) (by decide) (fun K hK => ?_)
     refine alloc_step (cs := #[.int .i64 0, .int .i64 0, .slice none 0 0]) (t := 25) (by rfl) rfl (by first | (go_simp; done) | (go_simp; rfl)) ?_
     intro g8 hg
     have BR_4_1_3_5 := Aside0.mk (below_alloc BR_4_1_3.out (.cells #[.int .i64 0, .int .i64 0, .slice none 0 0] 25 (0, 0)))
     have Z8_4_1_3_5 := Aside0.mk (blk_new w_4_1_3 (.cells #[.int .i64 0, .int .i64 0, .slice none 0 0] 25 (0, 0)))
     rw [← hg] at Z8_4_1_3_5
     have G8 := Aside0.mk (show w20.heap.size ≤ g8 by rw [hg]; exact BR_4_1_3.out.size)
     have NE := Aside0.mk (show g7 ≠ g8 by have h9 := blk_lt Z7_4_1_3.out; omega)
     have Z7_4_1_3_5 := Aside0.mk (blk_below Z7_4_1_3.out (below_alloc (Below.refl _ w_4_1_3) (.cells #[.int .i64 0, .int .i64 0, .slice none 0 0] 25 (0, 0))))
     have RL_4_1_3_5 := Aside0.mk (Kd.R_below RL_4_1_3.out (below_alloc (Below.refl _ w_4_1_3) (.cells #[.int .i64 0, .int .i64 0, .slice none 0 0] 25 (0, 0))))
     have RH_4_1_3_5 := Aside0.mk (Kd.R_below RH_4_1_3.out (below_alloc (Below.refl _ w_4_1_3) (.cells #[.int .i64 0, .int .i64 0, .slice none 0 0] 25 (0, 0))))
     clear hg
     generalize w_4_1_3.alloc (.cells #[.int .i64 0, .int .i64 0, .slice none 0 0] 25 (0, 0)) = w_4_1_3_5 at *
     refine hK.out _ _ ⟨(blk_cell (blk_below DX_20.out BR_4_1_3_5.out) 0).trans rfl, (blk_cell (blk_below DX_20.out BR_4_1_3_5.out) 1).trans rfl, (blk_cell (blk_below DX_20.out BR_4_1_3_5.out) 2).trans rfl⟩ (fun hHeld => ?_)
     clear hK K
     refine norm_ (a' := ?_) ?_ ?_
     rotate_left
     ·show Act.put _ (some 8) _ = _
      simp only [Act.put, List.setIfInBounds_toArray, List.set_cons_zero, List.set_cons_succ, i64_w, i32_w]
      rfl
     exact norm_ (by rfl) (hCont (gl, cl, gh, ch, g7, g8) _ ⟨RL_4_1_3_5.out, RH_4_1_3_5.out, Z7_4_1_3_5.out, Z8_4_1_3_5.out, NE.out, G7.out, G8.out, GL.out, GH.out, NLH.out, BR_4_1_3_5.out⟩)
    ·skip
     refine alloc_step (cs := #[.int .i64 0, .int .i64 0, .slice none 0 0]) (t := 25) (by rfl) rfl (by first | (go_simp; done) | (go_simp; rfl)) ?_
     intro g8 hg
     have BR_4_1_5 := Aside0.mk (below_alloc BR_4_1.out (.cells #[.int .i64 0, .int .i64 0, .slice none 0 0] 25 (0, 0)))
     have Z8_4_1_5 := Aside0.mk (blk_new w_4_1 (.cells #[.int .i64 0, .int .i64 0, .slice none 0 0] 25 (0, 0)))
     rw [← hg] at Z8_4_1_5
     have G8 := Aside0.mk (show w20.heap.size ≤ g8 by rw [hg]; exact BR_4_1.out.size)
     have NE := Aside0.mk (show g7 ≠ g8 by have h9 := blk_lt Z7_4_1.out; omega)
     have Z7_4_1_5 := Aside0.mk (blk_below Z7_4_1.out (below_alloc (Below.refl _ w_4_1) (.cells #[.int .i64 0, .int .i64 0, .slice none 0 0] 25 (0, 0))))
     have V_4_1_5 := Aside0.mk (Kd.R_below V_4_1.out (below_alloc (Below.refl _ w_4_1) (.cells #[.int .i64 0, .int .i64 0, .slice none 0 0] 25 (0, 0))))
     have SL_4_1_5 := Aside0.mk (Nat.lt_of_lt_of_le SL_4_1.out (below_alloc (Below.refl _ w_4_1) (.cells #[.int .i64 0, .int .i64 0, .slice none 0 0] 25 (0, 0))).size)
     clear hg
     generalize w_4_1.alloc (.cells #[.int .i64 0, .int .i64 0, .slice none 0 0] 25 (0, 0)) = w_4_1_5 at *
     refine hK.out _ _ ⟨(blk_cell (blk_below DX_20.out BR_4_1_5.out) 0).trans rfl, (blk_cell (blk_below DX_20.out BR_4_1_5.out) 1).trans rfl, (blk_cell (blk_below DX_20.out BR_4_1_5.out) 2).trans rfl⟩ (fun hHeld => ?_)
     clear hK K
     refine norm_ (a' := ?_) ?_ ?_
     rotate_left
     ·show Act.put _ (some 8) _ = _
      simp only [Act.put, List.setIfInBounds_toArray, List.set_cons_zero, List.set_cons_succ, i64_w, i32_w]
      rfl
     refine one_ (i := 3) (N := some 70) #[tt_,tt_,tt_,tt_,tt_,tt_,ff_,ff_] rfl rfl (by kernel_rfl) (by decide) (fun K hK => ?_)
     refine goes_ Try.func27 (by kernel_rfl) rfl #[.agg #[.int .i64 (W : Int), .int .i64 (H : Int), .slice A n cap]] (by rfl) rfl rfl (by (try simp only [List.map_toArray, List.map_cons, List.map_nil]); rfl) ?_
     refine (Copy_calls (W : Int) (H : Int) A n cap xs _ Lx_20.out.2.2 (Lx_20.out.below BR_4_1_5.out).1 HL.out).mono ?_
     rintro e w_4_1_5_3 ⟨v1, rfl, hR, hb⟩
     refine ⟨_, rfl, ?_⟩
     obtain ⟨gh, ch, hv1, hg, hlt, _⟩ := Kd.R_form hR (by rw [Lx_20.out.2.2]; exact HPN.out)
     rw [Lx_20.out.2.2] at hv1
     subst hv1
     have BR_4_1_5_3 := Aside0.mk (below_step BR_4_1_5.out hb)
     have GH := Aside0.mk (show w20.heap.size ≤ gh from Nat.le_trans BR_4_1_5.out.size hg)
     have hsl := SL_4_1_5.out
     have NLH := Aside0.mk (show gl ≠ gh by omega)
     have RL_4_1_5_3 := Aside0.mk (Kd.R_mono (Kd.R_below (Kd.R_bound V_4_1_5.out) hb) (ok' := fun k => k ≠ gh) (fun k hk => by have := hk.2.2.1; omega))
     have RH_4_1_5_3 := Aside0.mk (Kd.R_lower (Kd.R_mono (Kd.R_bound hR) (ok' := fun k => k ≠ gl) (fun k hk => by have := hk.2.1; omega)) BR_4_1_5.out.size)
     clear hsl
     have Z7_4_1_5_3 := Aside0.mk (blk_below Z7_4_1_5.out hb)
     have Z8_4_1_5_3 := Aside0.mk (blk_below Z8_4_1_5.out hb)
     clear hR hb hg hlt
     refine hK.out _ _ ⟨(blk_cell (blk_below DX_20.out BR_4_1_5_3.out) 0).trans rfl, (blk_cell (blk_below DX_20.out BR_4_1_5_3.out) 1).trans rfl, (blk_cell (blk_below DX_20.out BR_4_1_5_3.out) 2).trans rfl⟩ (fun hHeld => ?_)
     clear hK K
     refine norm_ (a' := ?_) ?_ ?_
     rotate_left
     ·show Act.put _ (some 70) _ = _
      simp only [Act.put, List.setIfInBounds_toArray, List.set_cons_zero, List.set_cons_succ, i64_w, i32_w]
      rfl
     exact norm_ (by rfl) (hCont (gl, cl, gh, ch, g7, g8) _ ⟨RL_4_1_5_3.out, RH_4_1_5_3.out, Z7_4_1_5_3.out, Z8_4_1_5_3.out, NE.out, G7.out, G8.out, GL.out, GH.out, NLH.out, BR_4_1_5_3.out⟩)
   ·skip
    refine alloc_step (cs := #[.int .i64 0, .int .i64 0, .slice none 0 0]) (t := 25) (by rfl) rfl (by first | (go_simp; done) | (go_simp; rfl)) ?_
    intro g8 hg
    have BR_4_5 := Aside0.mk (below_alloc BR_4.out (.cells #[.int .i64 0, .int .i64 0, .slice none 0 0] 25 (0, 0)))
    have Z8_4_5 := Aside0.mk (blk_new w_4 (.cells #[.int .i64 0, .int .i64 0, .slice none 0 0] 25 (0, 0)))
    rw [← hg] at Z8_4_5
    have G8 := Aside0.mk (show w20.heap.size ≤ g8 by rw [hg]; exact BR_4.out.size)
    have NE := Aside0.mk (show g7 ≠ g8 by have h9 := blk_lt Z7_4.out; omega)
    have Z7_4_5 := Aside0.mk (blk_below Z7_4.out (below_alloc (Below.refl _ w_4) (.cells #[.int .i64 0, .int .i64 0, .slice none 0 0] 25 (0, 0))))
    clear hg
    generalize w_4.alloc (.cells #[.int .i64 0, .int .i64 0, .slice none 0 0] 25 (0, 0)) = w_4_5 at *
    refine hK.out _ _ ⟨(blk_cell (blk_below DX_20.out BR_4_5.out) 0).trans rfl, (blk_cell (blk_below DX_20.out BR_4_5.out) 1).trans rfl, (blk_cell (blk_below DX_20.out BR_4_5.out) 2).trans rfl⟩ (fun hHeld => ?_)
    clear hK K
    refine norm_ (a' := ?_) ?_ ?_
    rotate_left
    ·show Act.put _ (some 8) _ = _
     simp only [Act.put, List.setIfInBounds_toArray, List.set_cons_zero, List.set_cons_succ, i64_w, i32_w]
     rfl
    refine one_ (i := 1) (N := some 68) #[tt_,tt_,tt_,ff_,tt_,tt_,ff_,ff_] rfl rfl (by kernel_rfl) (by decide) (fun K hK => ?_)
    refine goes_ Try.func27 (by kernel_rfl) rfl #[.agg #[.int .i64 (W : Int), .int .i64 (H : Int), .slice A n cap]] (by rfl) rfl rfl (by (try simp only [List.map_toArray, List.map_cons, List.map_nil]); rfl) ?_
    refine (Copy_calls (W : Int) (H : Int) A n cap xs _ Lx_20.out.2.2 (Lx_20.out.below BR_4_5.out).1 HL.out).mono ?_
    rintro e w_4_5_1 ⟨v1, rfl, hR, hb⟩
    refine ⟨_, rfl, ?_⟩
    obtain ⟨gl, cl, hv1, hg, hlt, _⟩ := Kd.R_form hR (by rw [Lx_20.out.2.2]; exact HPN.out)
    rw [Lx_20.out.2.2] at hv1
    subst hv1
    have BR_4_5_1 := Aside0.mk (below_step BR_4_5.out hb)
    have GL := Aside0.mk (show w20.heap.size ≤ gl from Nat.le_trans BR_4_5.out.size hg)
    have V_4_5_1 := Aside0.mk (Kd.R_lower hR BR_4_5.out.size)
    have SL_4_5_1 := Aside0.mk (hlt)
    have Z7_4_5_1 := Aside0.mk (blk_below Z7_4_5.out hb)
    have Z8_4_5_1 := Aside0.mk (blk_below Z8_4_5.out hb)
    clear hR hb hg hlt
    refine hK.out _ _ ⟨(blk_cell (blk_below DX_20.out BR_4_5_1.out) 0).trans rfl, (blk_cell (blk_below DX_20.out BR_4_5_1.out) 1).trans rfl, (blk_cell (blk_below DX_20.out BR_4_5_1.out) 2).trans rfl⟩ (fun hHeld => ?_)
    clear hK K
    refine norm_ (a' := ?_) ?_ ?_
    rotate_left
    ·show Act.put _ (some 68) _ = _
     simp only [Act.put, List.setIfInBounds_toArray, List.set_cons_zero, List.set_cons_succ, i64_w, i32_w]
     rfl
    refine one_ (i := 3) (N := some 70) #[tt_,tt_,tt_,tt_,tt_,tt_,ff_,ff_] rfl rfl (by kernel_rfl) (by decide) (fun K hK => ?_)
    refine goes_ Try.func27 (by kernel_rfl) rfl #[.agg #[.int .i64 (W : Int), .int .i64 (H : Int), .slice A n cap]] (by rfl) rfl rfl (by (try simp only [List.map_toArray, List.map_cons, List.map_nil]); rfl) ?_
    refine (Copy_calls (W : Int) (H : Int) A n cap xs _ Lx_20.out.2.2 (Lx_20.out.below BR_4_5_1.out).1 HL.out).mono ?_
    rintro e w_4_5_1_3 ⟨v1, rfl, hR, hb⟩
    refine ⟨_, rfl, ?_⟩
    obtain ⟨gh, ch, hv1, hg, hlt, _⟩ := Kd.R_form hR (by rw [Lx_20.out.2.2]; exact HPN.out)
    rw [Lx_20.out.2.2] at hv1
    subst hv1
    have BR_4_5_1_3 := Aside0.mk (below_step BR_4_5_1.out hb)
    have GH := Aside0.mk (show w20.heap.size ≤ gh from Nat.le_trans BR_4_5_1.out.size hg)
    have hsl := SL_4_5_1.out
    have NLH := Aside0.mk (show gl ≠ gh by omega)
    have RL_4_5_1_3 := Aside0.mk (Kd.R_mono (Kd.R_below (Kd.R_bound V_4_5_1.out) hb) (ok' := fun k => k ≠ gh) (fun k hk => by have := hk.2.2.1; omega))
    have RH_4_5_1_3 := Aside0.mk (Kd.R_lower (Kd.R_mono (Kd.R_bound hR) (ok' := fun k => k ≠ gl) (fun k hk => by have := hk.2.1; omega)) BR_4_5_1.out.size)
    clear hsl
    have Z7_4_5_1_3 := Aside0.mk (blk_below Z7_4_5_1.out hb)
    have Z8_4_5_1_3 := Aside0.mk (blk_below Z8_4_5_1.out hb)
    clear hR hb hg hlt
    refine hK.out _ _ ⟨(blk_cell (blk_below DX_20.out BR_4_5_1_3.out) 0).trans rfl, (blk_cell (blk_below DX_20.out BR_4_5_1_3.out) 1).trans rfl, (blk_cell (blk_below DX_20.out BR_4_5_1_3.out) 2).trans rfl⟩ (fun hHeld => ?_)
    clear hK K
    refine norm_ (a' := ?_) ?_ ?_
    rotate_left
    ·show Act.put _ (some 70) _ = _
     simp only [Act.put, List.setIfInBounds_toArray, List.set_cons_zero, List.set_cons_succ, i64_w, i32_w]
     rfl
    exact norm_ (by rfl) (hCont (gl, cl, gh, ch, g7, g8) _ ⟨RL_4_5_1_3.out, RH_4_5_1_3.out, Z7_4_5_1_3.out, Z8_4_5_1_3.out, NE.out, G7.out, G8.out, GL.out, GH.out, NLH.out, BR_4_5_1_3.out⟩)
  ·skip
   refine alloc_step (cs := #[.int .i64 0, .int .i64 0, .slice none 0 0]) (t := 25) (by rfl) rfl (by first | (go_simp; done) | (go_simp; rfl)) ?_
   intro g8 hg
   have BR_5 := Aside0.mk (below_alloc BR_.out (.cells #[.int .i64 0, .int .i64 0, .slice none 0 0] 25 (0, 0)))
   have Z8_5 := Aside0.mk (blk_new w20 (.cells #[.int .i64 0, .int .i64 0, .slice none 0 0] 25 (0, 0)))
   rw [← hg] at Z8_5
   have G8 := Aside0.mk (show w20.heap.size ≤ g8 by rw [hg]; exact BR_.out.size)
   clear hg
   generalize w20.alloc (.cells #[.int .i64 0, .int .i64 0, .slice none 0 0] 25 (0, 0)) = w_5 at *
   refine hK.out _ _ ⟨(blk_cell (blk_below DX_20.out BR_5.out) 0).trans rfl, (blk_cell (blk_below DX_20.out BR_5.out) 1).trans rfl, (blk_cell (blk_below DX_20.out BR_5.out) 2).trans rfl⟩ (fun hHeld => ?_)
   clear hK K
   refine norm_ (a' := ?_) ?_ ?_
   rotate_left
   ·show Act.put _ (some 8) _ = _
    simp only [Act.put, List.setIfInBounds_toArray, List.set_cons_zero, List.set_cons_succ, i64_w, i32_w]
    rfl
   refine two_ (i := 1) (j := 4) (Ni := some 68) (Nj := some 7) #[tt_,tt_,tt_,ff_,ff_,tt_,ff_,ff_] #[tt_,ff_,tt_,ff_,tt_,tt_,ff_,ff_] rfl rfl rfl rfl (by kernel_rfl) (by decide) (by decide) (fun K hK => ?_) (fun K hK => ?_)
   ·skip
    refine goes_ Try.func27 (by kernel_rfl) rfl #[.agg #[.int .i64 (W : Int), .int .i64 (H : Int), .slice A n cap]] (by rfl) rfl rfl (by (try simp only [List.map_toArray, List.map_cons, List.map_nil]); rfl) ?_
    refine (Copy_calls (W : Int) (H : Int) A n cap xs _ Lx_20.out.2.2 (Lx_20.out.below BR_5.out).1 HL.out).mono ?_
    rintro e w_5_1 ⟨v1, rfl, hR, hb⟩
    refine ⟨_, rfl, ?_⟩
    obtain ⟨gl, cl, hv1, hg, hlt, _⟩ := Kd.R_form hR (by rw [Lx_20.out.2.2]; exact HPN.out)
    rw [Lx_20.out.2.2] at hv1
    subst hv1
    have BR_5_1 := Aside0.mk (below_step BR_5.out hb)
    have GL := Aside0.mk (show w20.heap.size ≤ gl from Nat.le_trans BR_5.out.size hg)
    have V_5_1 := Aside0.mk (Kd.R_lower hR BR_5.out.size)
    have SL_5_1 := Aside0.mk (hlt)
    have Z8_5_1 := Aside0.mk (blk_below Z8_5.out hb)
    clear hR hb hg hlt
    refine hK.out _ _ ⟨(blk_cell (blk_below DX_20.out BR_5_1.out) 0).trans rfl, (blk_cell (blk_below DX_20.out BR_5_1.out) 1).trans rfl, (blk_cell (blk_below DX_20.out BR_5_1.out) 2).trans rfl⟩ (fun hHeld => ?_)
    clear hK K
    refine norm_ (a' := ?_) ?_ ?_
    rotate_left
    ·show Act.put _ (some 68) _ = _
     simp only [Act.put, List.setIfInBounds_toArray, List.set_cons_zero, List.set_cons_succ, i64_w, i32_w]
     rfl
    refine two_ (i := 3) (j := 4) (Ni := some 70) (Nj := some 7) #[tt_,tt_,tt_,tt_,ff_,tt_,ff_,ff_] #[tt_,tt_,tt_,ff_,tt_,tt_,ff_,ff_] rfl rfl rfl rfl (by kernel_rfl) (by decide) (by decide) (fun K hK => ?_) (fun K hK => ?_)
    ·skip
     refine goes_ Try.func27 (by kernel_rfl) rfl #[.agg #[.int .i64 (W : Int), .int .i64 (H : Int), .slice A n cap]] (by rfl) rfl rfl (by (try simp only [List.map_toArray, List.map_cons, List.map_nil]); rfl) ?_
     refine (Copy_calls (W : Int) (H : Int) A n cap xs _ Lx_20.out.2.2 (Lx_20.out.below BR_5_1.out).1 HL.out).mono ?_
     rintro e w_5_1_3 ⟨v1, rfl, hR, hb⟩
     refine ⟨_, rfl, ?_⟩
     obtain ⟨gh, ch, hv1, hg, hlt, _⟩ := Kd.R_form hR (by rw [Lx_20.out.2.2]; exact HPN.out)
     rw [Lx_20.out.2.2] at hv1
     subst hv1
     have BR_5_1_3 := Aside0.mk (below_step BR_5_1.out hb)
     have GH := Aside0.mk (show w20.heap.size ≤ gh from Nat.le_trans BR_5_1.out.size hg)
     have hsl := SL_5_1.out
     have NLH := Aside0.mk (show gl ≠ gh by omega)
     have RL_5_1_3 := Aside0.mk (Kd.R_mono (Kd.R_below (Kd.R_bound V_5_1.out) hb) (ok' := fun k => k ≠ gh) (fun k hk => by have := hk.2.2.1; omega))
     have RH_5_1_3 := Aside0.mk (Kd.R_lower (Kd.R_mono (Kd.R_bound hR) (ok' := fun k => k ≠ gl) (fun k hk => by have := hk.2.1; omega)) BR_5_1.out.size)
     clear hsl
     have Z8_5_1_3 := Aside0.mk (blk_below Z8_5_1.out hb)
     clear hR hb hg hlt
     refine hK.out _ _ ⟨(blk_cell (blk_below DX_20.out BR_5_1_3.out) 0).trans rfl, (blk_cell (blk_below DX_20.out BR_5_1_3.out) 1).trans rfl, (blk_cell (blk_below DX_20.out BR_5_1_3.out) 2).trans rfl⟩ (fun hHeld => ?_)
     clear hK K
     refine norm_ (a' := ?_) ?_ ?_
     rotate_left
     ·show Act.put _ (some 70) _ = _
      simp only [Act.put, List.setIfInBounds_toArray, List.set_cons_zero, List.set_cons_succ, i64_w, i32_w]
      rfl
     refine one_ (i := 4) (N := some 7) #[tt_,tt_,tt_,tt_,tt_,tt_,ff_,ff_] rfl rfl (by kernel_rfl) (by decide) (fun K hK => ?_)
     refine alloc_step (cs := #[.int .i64 0, .int .i64 0, .slice none 0 0]) (t := 25) (by rfl) rfl (by first | (go_simp; done) | (go_simp; rfl)) ?_
     intro g7 hg
     have BR_5_1_3_4 := Aside0.mk (below_alloc BR_5_1_3.out (.cells #[.int .i64 0, .int .i64 0, .slice none 0 0] 25 (0, 0)))
     have Z7_5_1_3_4 := Aside0.mk (blk_new w_5_1_3 (.cells #[.int .i64 0, .int .i64 0, .slice none 0 0] 25 (0, 0)))
     rw [← hg] at Z7_5_1_3_4
     have G7 := Aside0.mk (show w20.heap.size ≤ g7 by rw [hg]; exact BR_5_1_3.out.size)
     have NE := Aside0.mk (show g7 ≠ g8 by have h9 := blk_lt Z8_5_1_3.out; omega)
     have Z8_5_1_3_4 := Aside0.mk (blk_below Z8_5_1_3.out (below_alloc (Below.refl _ w_5_1_3) (.cells #[.int .i64 0, .int .i64 0, .slice none 0 0] 25 (0, 0))))
     have RL_5_1_3_4 := Aside0.mk (Kd.R_below RL_5_1_3.out (below_alloc (Below.refl _ w_5_1_3) (.cells #[.int .i64 0, .int .i64 0, .slice none 0 0] 25 (0, 0))))
     have RH_5_1_3_4 := Aside0.mk (Kd.R_below RH_5_1_3.out (below_alloc (Below.refl _ w_5_1_3) (.cells #[.int .i64 0, .int .i64 0, .slice none 0 0] 25 (0, 0))))
     clear hg
     generalize w_5_1_3.alloc (.cells #[.int .i64 0, .int .i64 0, .slice none 0 0] 25 (0, 0)) = w_5_1_3_4 at *
     refine hK.out _ _ ⟨(blk_cell (blk_below DX_20.out BR_5_1_3_4.out) 0).trans rfl, (blk_cell (blk_below DX_20.out BR_5_1_3_4.out) 1).trans rfl, (blk_cell (blk_below DX_20.out BR_5_1_3_4.out) 2).trans rfl⟩ (fun hHeld => ?_)
     clear hK K
     refine norm_ (a' := ?_) ?_ ?_
     rotate_left
     ·show Act.put _ (some 7) _ = _
      simp only [Act.put, List.setIfInBounds_toArray, List.set_cons_zero, List.set_cons_succ, i64_w, i32_w]
      rfl
     exact norm_ (by rfl) (hCont (gl, cl, gh, ch, g7, g8) _ ⟨RL_5_1_3_4.out, RH_5_1_3_4.out, Z7_5_1_3_4.out, Z8_5_1_3_4.out, NE.out, G7.out, G8.out, GL.out, GH.out, NLH.out, BR_5_1_3_4.out⟩)
    ·skip
     refine alloc_step (cs := #[.int .i64 0, .int .i64 0, .slice none 0 0]) (t := 25) (by rfl) rfl (by first | (go_simp; done) | (go_simp; rfl)) ?_
     intro g7 hg
     have BR_5_1_4 := Aside0.mk (below_alloc BR_5_1.out (.cells #[.int .i64 0, .int .i64 0, .slice none 0 0] 25 (0, 0)))
     have Z7_5_1_4 := Aside0.mk (blk_new w_5_1 (.cells #[.int .i64 0, .int .i64 0, .slice none 0 0] 25 (0, 0)))
     rw [← hg] at Z7_5_1_4
     have G7 := Aside0.mk (show w20.heap.size ≤ g7 by rw [hg]; exact BR_5_1.out.size)
     have NE := Aside0.mk (show g7 ≠ g8 by have h9 := blk_lt Z8_5_1.out; omega)
     have Z8_5_1_4 := Aside0.mk (blk_below Z8_5_1.out (below_alloc (Below.refl _ w_5_1) (.cells #[.int .i64 0, .int .i64 0, .slice none 0 0] 25 (0, 0))))
     have V_5_1_4 := Aside0.mk (Kd.R_below V_5_1.out (below_alloc (Below.refl _ w_5_1) (.cells #[.int .i64 0, .int .i64 0, .slice none 0 0] 25 (0, 0))))
     have SL_5_1_4 := Aside0.mk (Nat.lt_of_lt_of_le SL_5_1.out (below_alloc (Below.refl _ w_5_1) (.cells #[.int .i64 0, .int .i64 0, .slice none 0 0] 25 (0, 0))).size)
     clear hg
     generalize w_5_1.alloc (.cells #[.int .i64 0, .int .i64 0, .slice none 0 0] 25 (0, 0)) = w_5_1_4 at *
     refine hK.out _ _ ⟨(blk_cell (blk_below DX_20.out BR_5_1_4.out) 0).trans rfl, (blk_cell (blk_below DX_20.out BR_5_1_4.out) 1).trans rfl, (blk_cell (blk_below DX_20.out BR_5_1_4.out) 2).trans rfl⟩ (fun hHeld => ?_)
     clear hK K
     refine norm_ (a' := ?_) ?_ ?_
     rotate_left
     ·show Act.put _ (some 7) _ = _
      simp only [Act.put, List.setIfInBounds_toArray, List.set_cons_zero, List.set_cons_succ, i64_w, i32_w]
      rfl
     refine one_ (i := 3) (N := some 70) #[tt_,tt_,tt_,tt_,tt_,tt_,ff_,ff_] rfl rfl (by kernel_rfl) (by decide) (fun K hK => ?_)
     refine goes_ Try.func27 (by kernel_rfl) rfl #[.agg #[.int .i64 (W : Int), .int .i64 (H : Int), .slice A n cap]] (by rfl) rfl rfl (by (try simp only [List.map_toArray, List.map_cons, List.map_nil]); rfl) ?_
     refine (Copy_calls (W : Int) (H : Int) A n cap xs _ Lx_20.out.2.2 (Lx_20.out.below BR_5_1_4.out).1 HL.out).mono ?_
     rintro e w_5_1_4_3 ⟨v1, rfl, hR, hb⟩
     refine ⟨_, rfl, ?_⟩
     obtain ⟨gh, ch, hv1, hg, hlt, _⟩ := Kd.R_form hR (by rw [Lx_20.out.2.2]; exact HPN.out)
     rw [Lx_20.out.2.2] at hv1
     subst hv1
     have BR_5_1_4_3 := Aside0.mk (below_step BR_5_1_4.out hb)
     have GH := Aside0.mk (show w20.heap.size ≤ gh from Nat.le_trans BR_5_1_4.out.size hg)
     have hsl := SL_5_1_4.out
     have NLH := Aside0.mk (show gl ≠ gh by omega)
     have RL_5_1_4_3 := Aside0.mk (Kd.R_mono (Kd.R_below (Kd.R_bound V_5_1_4.out) hb) (ok' := fun k => k ≠ gh) (fun k hk => by have := hk.2.2.1; omega))
     have RH_5_1_4_3 := Aside0.mk (Kd.R_lower (Kd.R_mono (Kd.R_bound hR) (ok' := fun k => k ≠ gl) (fun k hk => by have := hk.2.1; omega)) BR_5_1_4.out.size)
     clear hsl
     have Z7_5_1_4_3 := Aside0.mk (blk_below Z7_5_1_4.out hb)
     have Z8_5_1_4_3 := Aside0.mk (blk_below Z8_5_1_4.out hb)
     clear hR hb hg hlt
     refine hK.out _ _ ⟨(blk_cell (blk_below DX_20.out BR_5_1_4_3.out) 0).trans rfl, (blk_cell (blk_below DX_20.out BR_5_1_4_3.out) 1).trans rfl, (blk_cell (blk_below DX_20.out BR_5_1_4_3.out) 2).trans rfl⟩ (fun hHeld => ?_)
     clear hK K
     refine norm_ (a' := ?_) ?_ ?_
     rotate_left
     ·show Act.put _ (some 70) _ = _
      simp only [Act.put, List.setIfInBounds_toArray, List.set_cons_zero, List.set_cons_succ, i64_w, i32_w]
      rfl
     exact norm_ (by rfl) (hCont (gl, cl, gh, ch, g7, g8) _ ⟨RL_5_1_4_3.out, RH_5_1_4_3.out, Z7_5_1_4_3.out, Z8_5_1_4_3.out, NE.out, G7.out, G8.out, GL.out, GH.out, NLH.out, BR_5_1_4_3.out⟩)
   ·skip
    refine alloc_step (cs := #[.int .i64 0, .int .i64 0, .slice none 0 0]) (t := 25) (by rfl) rfl (by first | (go_simp; done) | (go_simp; rfl)) ?_
    intro g7 hg
    have BR_5_4 := Aside0.mk (below_alloc BR_5.out (.cells #[.int .i64 0, .int .i64 0, .slice none 0 0] 25 (0, 0)))
    have Z7_5_4 := Aside0.mk (blk_new w_5 (.cells #[.int .i64 0, .int .i64 0, .slice none 0 0] 25 (0, 0)))
    rw [← hg] at Z7_5_4
    have G7 := Aside0.mk (show w20.heap.size ≤ g7 by rw [hg]; exact BR_5.out.size)
    have NE := Aside0.mk (show g7 ≠ g8 by have h9 := blk_lt Z8_5.out; omega)
    have Z8_5_4 := Aside0.mk (blk_below Z8_5.out (below_alloc (Below.refl _ w_5) (.cells #[.int .i64 0, .int .i64 0, .slice none 0 0] 25 (0, 0))))
    clear hg
    generalize w_5.alloc (.cells #[.int .i64 0, .int .i64 0, .slice none 0 0] 25 (0, 0)) = w_5_4 at *
    refine hK.out _ _ ⟨(blk_cell (blk_below DX_20.out BR_5_4.out) 0).trans rfl, (blk_cell (blk_below DX_20.out BR_5_4.out) 1).trans rfl, (blk_cell (blk_below DX_20.out BR_5_4.out) 2).trans rfl⟩ (fun hHeld => ?_)
    clear hK K
    refine norm_ (a' := ?_) ?_ ?_
    rotate_left
    ·show Act.put _ (some 7) _ = _
     simp only [Act.put, List.setIfInBounds_toArray, List.set_cons_zero, List.set_cons_succ, i64_w, i32_w]
     rfl
    refine one_ (i := 1) (N := some 68) #[tt_,tt_,tt_,ff_,tt_,tt_,ff_,ff_] rfl rfl (by kernel_rfl) (by decide) (fun K hK => ?_)
    refine goes_ Try.func27 (by kernel_rfl) rfl #[.agg #[.int .i64 (W : Int), .int .i64 (H : Int), .slice A n cap]] (by rfl) rfl rfl (by (try simp only [List.map_toArray, List.map_cons, List.map_nil]); rfl) ?_
    refine (Copy_calls (W : Int) (H : Int) A n cap xs _ Lx_20.out.2.2 (Lx_20.out.below BR_5_4.out).1 HL.out).mono ?_
    rintro e w_5_4_1 ⟨v1, rfl, hR, hb⟩
    refine ⟨_, rfl, ?_⟩
    obtain ⟨gl, cl, hv1, hg, hlt, _⟩ := Kd.R_form hR (by rw [Lx_20.out.2.2]; exact HPN.out)
    rw [Lx_20.out.2.2] at hv1
    subst hv1
    have BR_5_4_1 := Aside0.mk (below_step BR_5_4.out hb)
    have GL := Aside0.mk (show w20.heap.size ≤ gl from Nat.le_trans BR_5_4.out.size hg)
    have V_5_4_1 := Aside0.mk (Kd.R_lower hR BR_5_4.out.size)
    have SL_5_4_1 := Aside0.mk (hlt)
    have Z7_5_4_1 := Aside0.mk (blk_below Z7_5_4.out hb)
    have Z8_5_4_1 := Aside0.mk (blk_below Z8_5_4.out hb)
    clear hR hb hg hlt
    refine hK.out _ _ ⟨(blk_cell (blk_below DX_20.out BR_5_4_1.out) 0).trans rfl, (blk_cell (blk_below DX_20.out BR_5_4_1.out) 1).trans rfl, (blk_cell (blk_below DX_20.out BR_5_4_1.out) 2).trans rfl⟩ (fun hHeld => ?_)
    clear hK K
    refine norm_ (a' := ?_) ?_ ?_
    rotate_left
    ·show Act.put _ (some 68) _ = _
     simp only [Act.put, List.setIfInBounds_toArray, List.set_cons_zero, List.set_cons_succ, i64_w, i32_w]
     rfl
    refine one_ (i := 3) (N := some 70) #[tt_,tt_,tt_,tt_,tt_,tt_,ff_,ff_] rfl rfl (by kernel_rfl) (by decide) (fun K hK => ?_)
    refine goes_ Try.func27 (by kernel_rfl) rfl #[.agg #[.int .i64 (W : Int), .int .i64 (H : Int), .slice A n cap]] (by rfl) rfl rfl (by (try simp only [List.map_toArray, List.map_cons, List.map_nil]); rfl) ?_
    refine (Copy_calls (W : Int) (H : Int) A n cap xs _ Lx_20.out.2.2 (Lx_20.out.below BR_5_4_1.out).1 HL.out).mono ?_
    rintro e w_5_4_1_3 ⟨v1, rfl, hR, hb⟩
    refine ⟨_, rfl, ?_⟩
    obtain ⟨gh, ch, hv1, hg, hlt, _⟩ := Kd.R_form hR (by rw [Lx_20.out.2.2]; exact HPN.out)
    rw [Lx_20.out.2.2] at hv1
    subst hv1
    have BR_5_4_1_3 := Aside0.mk (below_step BR_5_4_1.out hb)
    have GH := Aside0.mk (show w20.heap.size ≤ gh from Nat.le_trans BR_5_4_1.out.size hg)
    have hsl := SL_5_4_1.out
    have NLH := Aside0.mk (show gl ≠ gh by omega)
    have RL_5_4_1_3 := Aside0.mk (Kd.R_mono (Kd.R_below (Kd.R_bound V_5_4_1.out) hb) (ok' := fun k => k ≠ gh) (fun k hk => by have := hk.2.2.1; omega))
    have RH_5_4_1_3 := Aside0.mk (Kd.R_lower (Kd.R_mono (Kd.R_bound hR) (ok' := fun k => k ≠ gl) (fun k hk => by have := hk.2.1; omega)) BR_5_4_1.out.size)
    clear hsl
    have Z7_5_4_1_3 := Aside0.mk (blk_below Z7_5_4_1.out hb)
    have Z8_5_4_1_3 := Aside0.mk (blk_below Z8_5_4_1.out hb)
    clear hR hb hg hlt
    refine hK.out _ _ ⟨(blk_cell (blk_below DX_20.out BR_5_4_1_3.out) 0).trans rfl, (blk_cell (blk_below DX_20.out BR_5_4_1_3.out) 1).trans rfl, (blk_cell (blk_below DX_20.out BR_5_4_1_3.out) 2).trans rfl⟩ (fun hHeld => ?_)
    clear hK K
    refine norm_ (a' := ?_) ?_ ?_
    rotate_left
    ·show Act.put _ (some 70) _ = _
     simp only [Act.put, List.setIfInBounds_toArray, List.set_cons_zero, List.set_cons_succ, i64_w, i32_w]
     rfl
    exact norm_ (by rfl) (hCont (gl, cl, gh, ch, g7, g8) _ ⟨RL_5_4_1_3.out, RH_5_4_1_3.out, Z7_5_4_1_3.out, Z8_5_4_1_3.out, NE.out, G7.out, G8.out, GL.out, GH.out, NLH.out, BR_5_4_1_3.out⟩)
 rintro ⟨gl, cl, gh, ch, g7, g8⟩ w30 ⟨hRL, hRH, h7, h8, hne, hg7, hg8, hgl, hgh, hlh, hB⟩
 simp only at hRL hRH h7 h8 hne hg7 hg8 hgl hgh hlh
 have RL30 := Aside0.mk (hRL)
 have RH30 := Aside0.mk (hRH)
 have Z7 := Aside0.mk (h7)
 have Z8 := Aside0.mk (h8)
 have NE := Aside0.mk (hne)
 have G7 := Aside0.mk (hg7)
 have G8 := Aside0.mk (hg8)
 have GL := Aside0.mk (hgl)
 have GH := Aside0.mk (hgh)
 have NLH := Aside0.mk (hlh)
 have BR30 := Aside0.mk (hB)
 have hHeld : w30.cell? ⟨gX, 0, none⟩ = some (.int .i64 (W : Int)) ∧ w30.cell? ⟨gX, 1, none⟩ = some (.int .i64 (H : Int)) ∧ w30.cell? ⟨gX, 2, none⟩ = some (.slice A n cap) := ⟨(blk_cell (blk_below DX_20.out BR30.out) 0).trans rfl, (blk_cell (blk_below DX_20.out BR30.out) 1).trans rfl, (blk_cell (blk_below DX_20.out BR30.out) 2).trans rfl⟩
 clear hRL hRH h7 h8 hne hg7 hg8 hgl hgh hlh hB
 refine norm_ (a' := ?_) ?_ ?_
 rotate_left
 ·simp only [YtodlgdpkadkjjaaW.PrintLast.putAll, Act.put, List.setIfInBounds_toArray, List.set_cons_zero, List.set_cons_succ]
  rfl
 refine one_ (i := 6) (N := none) #[tt_,tt_,tt_,tt_,tt_,tt_,tt_,ff_] rfl rfl (by kernel_rfl) (by decide) (fun K hK => ?_)
 refine storeP_step (by rfl) rfl rfl g7 (W : Int) (H : Int) (some ⟨gl, 0, none⟩) n cl _ _ _ rfl rfl Z7.out ?_
 intro w31 hm_ hst_ hbl_
 have D7 := Aside0.mk (hm_)
 have Z8b := Aside0.mk ((hst_ g8 NE.out.symm).trans Z8.out)
 have RL31 := Aside0.mk (Kd.R_mono (Kd.R_move (Kd.R_types RL30.out Z7.out (by decide)) (fun k hk => hst_ k hk.2)) (fun k hk => hk.1))
 have RH31 := Aside0.mk (Kd.R_mono (Kd.R_move (Kd.R_types RH30.out Z7.out (by decide)) (fun k hk => hst_ k hk.2)) (fun k hk => hk.1))
 have BR31 := Aside0.mk (BR30.out.trans (hbl_ _ G7.out))
 clear hm_ hst_ hbl_
 refine hK.out _ _ ⟨(blk_cell (blk_below DX_20.out BR31.out) 0).trans rfl, (blk_cell (blk_below DX_20.out BR31.out) 1).trans rfl, (blk_cell (blk_below DX_20.out BR31.out) 2).trans rfl⟩ (fun hHeld => ?_)
 clear hK K
 refine last_ (i := 7) (N := none) #[tt_,tt_,tt_,tt_,tt_,tt_,tt_,tt_] rfl rfl (by kernel_rfl) (by decide) (fun K hK => ?_)
 refine storeP_step (by rfl) rfl rfl g8 (W : Int) (H : Int) (some ⟨gh, 0, none⟩) n ch _ _ _ rfl rfl Z8b.out ?_
 intro w32 hm_ hst_ hbl_
 have MM := Aside0.mk (show M4 w20 g7 g8 W H gl gh n cl ch w32 xs xs from ⟨Kd.R_mono (Kd.R_move (Kd.R_types RL31.out Z8b.out (by decide)) (fun k hk => hst_ k hk.2)) (fun k hk => hk.1), Kd.R_mono (Kd.R_move (Kd.R_types RH31.out Z8b.out (by decide)) (fun k hk => hst_ k hk.2)) (fun k hk => hk.1), (hst_ g7 NE.out).trans D7.out, hm_, BR31.out.trans (hbl_ _ G8.out)⟩)
 clear hm_ hst_ hbl_
 refine hK.out _ _ ?_
 clear hK K
 refine done_ (by kernel_rfl) ?_
 go_upto_region 6 with (fail)
 have M40 := Aside0.mk (M4.drew MM.out)
 obtain ⟨adA, hA, hxA, _⟩ := cellAtH (Lx_20.out.below M40.out.b) (show 0 < xs.length by rw [Lx_20.out.2.2]; exact HPN.out)
 subst hA
 obtain ⟨a0, ha0⟩ : ∃ a0, gt xs 0 = a0 := ⟨_, rfl⟩
 have HA0 : Aside0 (a0 < 4294967296) := ⟨by rw [← ha0]; exact HXX.out 0⟩
 have HA00 := Aside0.mk ha0
 have e0 : adA.add 0 = adA := if_pos rfl
 have hn0 : ((0 : Int) < (n : Int)) = True := eq_true (by have := HPN.out; omega)
 have hn1 : (0 < n) = True := eq_true HPN.out
 rw [e0, ha0] at hxA
 have XA40 := Aside0.mk hxA
 clear hxA ha0 MM
 refine start_ (n := 12) (S := fun w' => w'.cell? ⟨gX, 2, none⟩ = some (.slice (some adA) n cap) ∧ w'.cell? adA = some (.int .u32 (a0 : Int))) (ds := []) #[ff_,ff_,ff_,ff_,ff_,ff_,ff_,ff_,ff_,ff_,ff_,ff_] (by kernel_rfl) rfl rfl ⟨(blk_cell (blk_below DX_20.out M40.out.b) 2).trans rfl, XA40.out⟩ (fun hHeld => ?_)
 generalize w32.drew = w40 at *
 refine pure_ (i := 0) (N := some 71) (v := ?_) (a' := ?_) #[tt_,ff_,ff_,ff_,ff_,ff_,ff_,ff_,ff_,ff_,ff_,ff_] rfl rfl (by kernel_rfl) (fun _ _ _ h => h) (Or.inl ⟨by rfl, ?_⟩) ?_ ?_
 rotate_left
 ·intro w'
  go_simp
  with_reducible rfl
 rotate_left
 ·simp only [Act.put, List.setIfInBounds_toArray, List.set_cons_zero, List.set_cons_succ, i64_w, i32_w]
  rfl
 refine pure_ (i := 5) (N := some 76) (v := ?_) (a' := ?_) #[tt_,ff_,ff_,ff_,ff_,tt_,ff_,ff_,ff_,ff_,ff_,ff_] rfl rfl (by kernel_rfl) (fun _ _ _ h => h) (Or.inl ⟨by rfl, ?_⟩) ?_ ?_
 rotate_left
 ·intro w'
  go_simp
  with_reducible rfl
 rotate_left
 ·simp only [Act.put, List.setIfInBounds_toArray, List.set_cons_zero, List.set_cons_succ, i64_w, i32_w]
  rfl
 refine take_ (i := 1) (N := some 72) (v := ?_) (a' := ?_) #[tt_,tt_,ff_,ff_,ff_,tt_,ff_,ff_,ff_,ff_,ff_,ff_] rfl rfl (by kernel_rfl) (fun _ _ _ h => h) (Or.inl ⟨by rfl, ?_⟩) hHeld ?_ ?_
 rotate_left
 ·rintro w' ⟨s0, s1⟩
  go_simp
  with_reducible rfl
 rotate_left
 ·simp only [Act.put, List.setIfInBounds_toArray, List.set_cons_zero, List.set_cons_succ, i64_w, i32_w]
  rfl
 refine pure_ (i := 2) (N := some 73) (v := ?_) (a' := ?_) #[tt_,tt_,tt_,ff_,ff_,tt_,ff_,ff_,ff_,ff_,ff_,ff_] rfl rfl (by kernel_rfl) (fun _ _ _ h => h) (Or.inl ⟨by rfl, ?_⟩) ?_ ?_
 rotate_left
 ·intro w'
  go_simp
  with_reducible rfl
 rotate_left
 ·simp only [Act.put, List.setIfInBounds_toArray, List.set_cons_zero, List.set_cons_succ, i64_w, i32_w]
  rfl
 refine take_ (i := 3) (N := some 74) (v := ?_) (a' := ?_) #[tt_,tt_,tt_,tt_,ff_,tt_,ff_,ff_,ff_,ff_,ff_,ff_] rfl rfl (by kernel_rfl) (fun _ _ _ h => h) (Or.inl ⟨by rfl, ?_⟩) hHeld ?_ ?_
 rotate_left
 ·rintro w' ⟨s0, s1⟩
  go_simp
  with_reducible rfl
 rotate_left
 ·simp only [Act.put, List.setIfInBounds_toArray, List.set_cons_zero, List.set_cons_succ, i64_w, i32_w]
  rfl
 refine take_ (i := 6) (N := some 77) (v := ?_) (a' := ?_) #[tt_,tt_,tt_,tt_,ff_,tt_,tt_,ff_,ff_,ff_,ff_,ff_] rfl rfl (by kernel_rfl) (fun _ _ _ h => h) (Or.inl ⟨by rfl, ?_⟩) hHeld ?_ ?_
 rotate_left
 ·rintro w' ⟨s0, s1⟩
  go_simp
  with_reducible rfl
 rotate_left
 ·simp only [Act.put, List.setIfInBounds_toArray, List.set_cons_zero, List.set_cons_succ, i64_w, i32_w]
  rfl
 refine pure_ (i := 7) (N := some 78) (v := ?_) (a' := ?_) #[tt_,tt_,tt_,tt_,ff_,tt_,tt_,tt_,ff_,ff_,ff_,ff_] rfl rfl (by kernel_rfl) (fun _ _ _ h => h) (Or.inl ⟨by rfl, ?_⟩) ?_ ?_
 rotate_left
 ·intro w'
  go_simp
  with_reducible rfl
 rotate_left
 ·simp only [Act.put, List.setIfInBounds_toArray, List.set_cons_zero, List.set_cons_succ, i64_w, i32_w]
  rfl
 refine take_ (i := 8) (N := some 79) (v := ?_) (a' := ?_) #[tt_,tt_,tt_,tt_,ff_,tt_,tt_,tt_,tt_,ff_,ff_,ff_] rfl rfl (by kernel_rfl) (fun _ _ _ h => h) (Or.inl ⟨by rfl, ?_⟩) hHeld ?_ ?_
 rotate_left
 ·rintro w' ⟨s0, s1⟩
  go_simp
  with_reducible rfl
 rotate_left
 ·simp only [Act.put, List.setIfInBounds_toArray, List.set_cons_zero, List.set_cons_succ, i64_w, i32_w]
  rfl
 refine one_ (i := 4) (N := some 75) #[tt_,tt_,tt_,tt_,tt_,tt_,tt_,tt_,tt_,ff_,ff_,ff_] rfl rfl (by kernel_rfl) (by decide) (fun K hK => ?_)
 refine goes_ Try.func28 (by kernel_rfl) rfl #[.int .u32 (a0 : Int)] (by rfl) rfl rfl (by (try simp only [List.map_toArray, List.map_cons, List.map_nil]); rfl) ?_
 refine (value_any a0 HA0.out _).mono ?_
 rintro e w41 ⟨lv, rfl, hb, h_lv⟩
 refine ⟨_, rfl, ?_⟩
 have M41 := Aside0.mk (M40.out.below hb)
 have XA41 := Aside0.mk (pw_cell_below hb XA40.out)
 have Hlv := Aside0.mk (h_lv)
 clear hb h_lv
 refine hK.out _ _ ⟨(blk_cell (blk_below DX_20.out M41.out.b) 2).trans rfl, XA41.out⟩ (fun hHeld => ?_)
 clear hK K
 refine norm_ (a' := ?_) ?_ ?_
 rotate_left
 ·show Act.put _ (some 75) _ = _
  simp only [Act.put, List.setIfInBounds_toArray, List.set_cons_zero, List.set_cons_succ, i64_w, i32_w]
  rfl
 refine one_ (i := 9) (N := some 80) #[tt_,tt_,tt_,tt_,tt_,tt_,tt_,tt_,tt_,tt_,ff_,ff_] rfl rfl (by kernel_rfl) (by decide) (fun K hK => ?_)
 refine goes_ Try.func28 (by kernel_rfl) rfl #[.int .u32 (a0 : Int)] (by rfl) rfl rfl (by (try simp only [List.map_toArray, List.map_cons, List.map_nil]); rfl) ?_
 refine (value_any a0 HA0.out _).mono ?_
 rintro e w42 ⟨mv, rfl, hb, h_mv⟩
 refine ⟨_, rfl, ?_⟩
 have M42 := Aside0.mk (M41.out.below hb)
 have XA42 := Aside0.mk (pw_cell_below hb XA41.out)
 have Hmv := Aside0.mk (h_mv)
 clear hb h_mv
 refine hK.out _ _ ⟨(blk_cell (blk_below DX_20.out M42.out.b) 2).trans rfl, XA42.out⟩ (fun hHeld => ?_)
 clear hK K
 refine norm_ (a' := ?_) ?_ ?_
 rotate_left
 ·show Act.put _ (some 80) _ = _
  simp only [Act.put, List.setIfInBounds_toArray, List.set_cons_zero, List.set_cons_succ, i64_w, i32_w]
  rfl
 refine pure_ (i := 10) (N := some 9) (v := ?_) (a' := ?_) #[tt_,tt_,tt_,tt_,tt_,tt_,tt_,tt_,tt_,tt_,tt_,ff_] rfl rfl (by kernel_rfl) (fun _ _ _ h => h) (Or.inl ⟨by rfl, ?_⟩) ?_ ?_
 rotate_left
 ·intro w'
  go_simp
  with_reducible rfl
 rotate_left
 ·simp only [Act.put, List.setIfInBounds_toArray, List.set_cons_zero, List.set_cons_succ, i64_w, i32_w]
  rfl
 refine pure_ (i := 11) (N := some 10) (v := ?_) (a' := ?_) #[tt_,tt_,tt_,tt_,tt_,tt_,tt_,tt_,tt_,tt_,tt_,tt_] rfl rfl (by kernel_rfl) (fun _ _ _ h => h) (Or.inl ⟨by rfl, ?_⟩) ?_ ?_
 rotate_left
 ·intro w'
  go_simp
  with_reducible rfl
 rotate_left
 ·simp only [Act.put, List.setIfInBounds_toArray, List.set_cons_zero, List.set_cons_succ, i64_w, i32_w]
  rfl
 refine done_ (by kernel_rfl) ?_
 clear hHeld
 go_wp2
 have HIV : Aside0 (IV xs n 0 lv mv xs xs) := ⟨IV.start Lx_20.out.2.2 HXX.out (fun z hz => by rw [HA00.out] at hz ⊢; exact Hlv.out z hz) (fun z hz => by rw [HA00.out] at hz ⊢; exact Hmv.out z hz)⟩
 go_loopw [9, 10, 11] (fun lw mw iw wr => ∃ (i lv mv : Nat) (ls hs : List Nat), i ≤ n ∧ lw = .float .f64 lv ∧ mw = .float .f64 mv ∧ iw = .int .i64 (i : Int) ∧ Aside0 (M4 w20 g7 g8 W H gl gh n cl ch wr ls hs) ∧ Aside0 (IV xs n i lv mv ls hs)) (fun _ _ iw _ => n - (intOf iw).toNat)
 case atStart => exact ⟨0, lv, mv, xs, xs, Nat.zero_le _, rfl, rfl, rfl, M42, HIV⟩
 case round =>
  clear M42 HIV XA40 XA41 XA42 M40 M41 e0 Hlv Hmv
  obtain ⟨i, lv, mv, ls, hs, hi, rfl, rfl, rfl, MI, IVI⟩ := hrel
  by_cases hlt : i < n
  ·have c1 : decide ((i : Int) < (n : Int)) = true := decide_eq_true (by omega)
   have i1 : ((i : Int) < (n : Int)) = True := eq_true (by omega)
   have HLT := Aside0.mk hlt
   obtain ⟨ad_, hA, hxa, _⟩ := cellAtH (Lx_20.out.below MI.out.b) (show i < xs.length by rw [Lx_20.out.2.2]; exact hlt)
   injection hA with hA
   subst hA
   obtain ⟨adB, hA, hxb, _⟩ := cellAtH (Ly_20.out.below MI.out.b) (show i < ys.length by rw [Ly_20.out.2.2]; exact hlt)
   subst hA
   obtain ⟨a, ha⟩ : ∃ a, gt xs i = a := ⟨_, rfl⟩
   obtain ⟨b, hb⟩ : ∃ b, gt ys i = b := ⟨_, rfl⟩
   rw [ha] at hxa
   rw [hb] at hxb
   have HEA := Aside0.mk ha
   have al : a < 4294967296 := by rw [← ha]; exact HXX.out i
   have bl : b < 4294967296 := by rw [← hb]; exact HYY.out i
   have HAL := Aside0.mk al
   have HBL := Aside0.mk bl
   obtain ⟨qa, hqa⟩ : ∃ q, a / 8388608 = q := ⟨_, rfl⟩
   obtain ⟨ra, hra⟩ : ∃ r, qa % 256 = r := ⟨_, rfl⟩
   obtain ⟨qb, hqb⟩ : ∃ q, b / 8388608 = q := ⟨_, rfl⟩
   obtain ⟨rb, hrb⟩ : ∃ r, qb % 256 = r := ⟨_, rfl⟩
   have q1 : (a : Int).tdiv 8388608 = (qa : Int) := by rw [← hqa]; rfl
   have q2 : (qa : Int).tmod 256 = (ra : Int) := by rw [← hra]; rfl
   have q3 : (b : Int).tdiv 8388608 = (qb : Int) := by rw [← hqb]; rfl
   have q4 : (qb : Int).tmod 256 = (rb : Int) := by rw [← hrb]; rfl
   have r1 : qa < 4294967296 := by omega
   have r2 : ra < 4294967296 := by omega
   have r3 : qb < 4294967296 := by omega
   have r4 : rb < 4294967296 := by omega
   have p2 := (blk_cell (blk_below DX_20.out MI.out.b) 2).trans rfl
   have y2 := (blk_cell (blk_below DY_20.out MI.out.b) 2).trans rfl
   by_cases ca : ra = 255
   ·have ta : ((ra : Int) == 255) = true := by rw [beq_iff_eq]; omega
    clear ca hqa hra hqb hrb ha hb
    go_wp2
    go_ret
    exact ⟨rfl, below_step B_20.out MI.out.b⟩
   have ta : ((ra : Int) == 255) = false := by rw [beq_eq_false_iff_ne]; omega
   by_cases cb : rb = 255
   ·have tb : ((rb : Int) == 255) = true := by rw [beq_iff_eq]; omega
    clear ca cb hqa hra hqb hrb ha hb
    go_wp2
    go_ret
    exact ⟨rfl, below_step B_20.out MI.out.b⟩
   have tb : ((rb : Int) == 255) = false := by rw [beq_eq_false_iff_ne]; omega
   obtain ⟨za, hza⟩ := F32_of_fin al (by rw [hqa, hra]; exact ca)
   obtain ⟨zb, hzb⟩ := F32_of_fin bl (by rw [hqb, hrb]; exact cb)
   have HA := Aside0.mk hza
   have HB := Aside0.mk hzb
   obtain ⟨sl, sm, lz, mz, h1, h2, h3, h4, h5⟩ := IVI.out.z (za := za) (by rw [ha]; exact hza)
   have HSL := Aside0.mk h1
   have HSM := Aside0.mk h2
   have HDL := Aside0.mk h3
   have HDM := Aside0.mk h4
   have HALL := Aside0.mk h5
   have XA_ := Aside0.mk hxa
   have XB_ := Aside0.mk hxb
   clear ca cb hqa hra hqb hrb ha hb al bl hza hzb h1 h2 h3 h4 h5
   go_upto_region 12 with (fail)
   have M50 := Aside0.mk (M4.drew MI.out)
   have XA50 : Aside0 (wr.drew.cell? (adA.add i) = some (.int .u32 (a : Int))) := ⟨XA_.out⟩
   have XB50 : Aside0 (wr.drew.cell? (adB.add i) = some (.int .u32 (b : Int))) := ⟨XB_.out⟩
   clear hxa hxb p2 y2 XA_ XB_ MI q1 q2 q3 q4 r1 r2 r3 r4 ta tb
   by_cases hz : zb < za
   ·obtain ⟨k1, k2⟩ := lss_t (dv_z HB.out).2 (dv_z HA.out).2 hz
    have HLE := Aside0.mk (Int.le_of_lt hz)
    refine start_ (n := 13) (S := fun w' => w'.cell? ⟨gX, 2, none⟩ = some (.slice (some adA) n cap) ∧ w'.cell? ⟨gY, 2, none⟩ = some (.slice (some adB) n capq) ∧ w'.cell? (adA.add i) = some (.int .u32 (a : Int)) ∧ w'.cell? (adB.add i) = some (.int .u32 (b : Int))) (ds := []) #[ff_,ff_,ff_,ff_,ff_,ff_,ff_,ff_,ff_,ff_,ff_,ff_,ff_] (by kernel_rfl) rfl rfl ⟨(blk_cell (blk_below DX_20.out M50.out.b) 2).trans rfl, (blk_cell (blk_below DY_20.out M50.out.b) 2).trans rfl, XA50.out, XB50.out⟩ (fun hHeld => ?_)
    generalize wr.drew = w50 at *
    refine pure_ (i := 0) (N := some 106) (v := ?_) (a' := ?_) #[tt_,ff_,ff_,ff_,ff_,ff_,ff_,ff_,ff_,ff_,ff_,ff_,ff_] rfl rfl (by kernel_rfl) (fun _ _ _ h => h) (Or.inl ⟨by rfl, ?_⟩) ?_ ?_
    rotate_left
    ·intro w'
     go_simp
     with_reducible rfl
    rotate_left
    ·simp only [Act.put, List.setIfInBounds_toArray, List.set_cons_zero, List.set_cons_succ, i64_w, i32_w]
     rfl
    refine pure_ (i := 2) (N := some 108) (v := ?_) (a' := ?_) #[tt_,ff_,tt_,ff_,ff_,ff_,ff_,ff_,ff_,ff_,ff_,ff_,ff_] rfl rfl (by kernel_rfl) (fun _ _ _ h => h) (Or.inl ⟨by rfl, ?_⟩) ?_ ?_
    rotate_left
    ·intro w'
     go_simp
     with_reducible rfl
    rotate_left
    ·simp only [Act.put, List.setIfInBounds_toArray, List.set_cons_zero, List.set_cons_succ, i64_w, i32_w]
     rfl
    refine pure_ (i := 6) (N := some 112) (v := ?_) (a' := ?_) #[tt_,ff_,tt_,ff_,ff_,ff_,tt_,ff_,ff_,ff_,ff_,ff_,ff_] rfl rfl (by kernel_rfl) (fun _ _ _ h => h) (Or.inl ⟨by rfl, ?_⟩) ?_ ?_
    rotate_left
    ·intro w'
     go_simp
     with_reducible rfl
    rotate_left
    ·simp only [Act.put, List.setIfInBounds_toArray, List.set_cons_zero, List.set_cons_succ, i64_w, i32_w]
     rfl
    refine pure_ (i := 8) (N := some 114) (v := ?_) (a' := ?_) #[tt_,ff_,tt_,ff_,ff_,ff_,tt_,ff_,tt_,ff_,ff_,ff_,ff_] rfl rfl (by kernel_rfl) (fun _ _ _ h => h) (Or.inl ⟨by rfl, ?_⟩) ?_ ?_
    rotate_left
    ·intro w'
     go_simp
     with_reducible rfl
    rotate_left
    ·simp only [Act.put, List.setIfInBounds_toArray, List.set_cons_zero, List.set_cons_succ, i64_w, i32_w]
     rfl
    refine take_ (i := 1) (N := some 107) (v := ?_) (a' := ?_) #[tt_,tt_,tt_,ff_,ff_,ff_,tt_,ff_,tt_,ff_,ff_,ff_,ff_] rfl rfl (by kernel_rfl) (fun _ _ _ h => h) (Or.inl ⟨by rfl, ?_⟩) hHeld ?_ ?_
    rotate_left
    ·rintro w' ⟨s0, s1, s2, s3⟩
     go_simp
     with_reducible rfl
    rotate_left
    ·simp only [Act.put, List.setIfInBounds_toArray, List.set_cons_zero, List.set_cons_succ, i64_w, i32_w]
     rfl
    refine pure_ (i := 3) (N := some 109) (v := ?_) (a' := ?_) #[tt_,tt_,tt_,tt_,ff_,ff_,tt_,ff_,tt_,ff_,ff_,ff_,ff_] rfl rfl (by kernel_rfl) (fun _ _ _ h => h) (Or.inl ⟨by rfl, ?_⟩) ?_ ?_
    rotate_left
    ·intro w'
     go_simp
     with_reducible rfl
    rotate_left
    ·simp only [Act.put, List.setIfInBounds_toArray, List.set_cons_zero, List.set_cons_succ, i64_w, i32_w]
     rfl
    refine take_ (i := 4) (N := some 110) (v := ?_) (a' := ?_) #[tt_,tt_,tt_,tt_,tt_,ff_,tt_,ff_,tt_,ff_,ff_,ff_,ff_] rfl rfl (by kernel_rfl) (fun _ _ _ h => h) (Or.inl ⟨by rfl, ?_⟩) hHeld ?_ ?_
    rotate_left
    ·rintro w' ⟨s0, s1, s2, s3⟩
     go_simp
     with_reducible rfl
    rotate_left
    ·simp only [Act.put, List.setIfInBounds_toArray, List.set_cons_zero, List.set_cons_succ, i64_w, i32_w]
     rfl
    refine take_ (i := 7) (N := some 113) (v := ?_) (a' := ?_) #[tt_,tt_,tt_,tt_,tt_,ff_,tt_,tt_,tt_,ff_,ff_,ff_,ff_] rfl rfl (by kernel_rfl) (fun _ _ _ h => h) (Or.inl ⟨by rfl, ?_⟩) hHeld ?_ ?_
    rotate_left
    ·rintro w' ⟨s0, s1, s2, s3⟩
     go_simp
     with_reducible rfl
    rotate_left
    ·simp only [Act.put, List.setIfInBounds_toArray, List.set_cons_zero, List.set_cons_succ, i64_w, i32_w]
     rfl
    refine pure_ (i := 9) (N := some 115) (v := ?_) (a' := ?_) #[tt_,tt_,tt_,tt_,tt_,ff_,tt_,tt_,tt_,tt_,ff_,ff_,ff_] rfl rfl (by kernel_rfl) (fun _ _ _ h => h) (Or.inl ⟨by rfl, ?_⟩) ?_ ?_
    rotate_left
    ·intro w'
     go_simp
     with_reducible rfl
    rotate_left
    ·simp only [Act.put, List.setIfInBounds_toArray, List.set_cons_zero, List.set_cons_succ, i64_w, i32_w]
     rfl
    refine take_ (i := 10) (N := some 116) (v := ?_) (a' := ?_) #[tt_,tt_,tt_,tt_,tt_,ff_,tt_,tt_,tt_,tt_,tt_,ff_,ff_] rfl rfl (by kernel_rfl) (fun _ _ _ h => h) (Or.inl ⟨by rfl, ?_⟩) hHeld ?_ ?_
    rotate_left
    ·rintro w' ⟨s0, s1, s2, s3⟩
     go_simp
     with_reducible rfl
    rotate_left
    ·simp only [Act.put, List.setIfInBounds_toArray, List.set_cons_zero, List.set_cons_succ, i64_w, i32_w]
     rfl
    refine one_ (i := 5) (N := some 111) #[tt_,tt_,tt_,tt_,tt_,tt_,tt_,tt_,tt_,tt_,tt_,ff_,ff_] rfl rfl (by kernel_rfl) (by decide) (fun K hK => ?_)
    refine goes_ Try.func28 (by kernel_rfl) rfl #[.int .u32 (b : Int)] (by rfl) rfl rfl (by (try simp only [List.map_toArray, List.map_cons, List.map_nil]); rfl) ?_
    with_reducible refine (value_calls b zb HB.out _).mono ?_
    rintro e w_ ⟨rfl, hw_⟩
    refine ⟨_, rfl, ?_⟩
    have hw2_ := hw_.symm
    clear hw_
    subst hw2_
    refine hK.out _ _ ⟨(blk_cell (blk_below DX_20.out M50.out.b) 2).trans rfl, (blk_cell (blk_below DY_20.out M50.out.b) 2).trans rfl, XA50.out, XB50.out⟩ (fun hHeld => ?_)
    clear hK K
    refine norm_ (a' := ?_) ?_ ?_
    rotate_left
    ·show Act.put _ (some 111) _ = _
     simp only [Act.put, List.setIfInBounds_toArray, List.set_cons_zero, List.set_cons_succ, i64_w, i32_w]
     rfl
    refine one_ (i := 11) (N := some 117) #[tt_,tt_,tt_,tt_,tt_,tt_,tt_,tt_,tt_,tt_,tt_,tt_,ff_] rfl rfl (by kernel_rfl) (by decide) (fun K hK => ?_)
    refine goes_ Try.func28 (by kernel_rfl) rfl #[.int .u32 (a : Int)] (by rfl) rfl rfl (by (try simp only [List.map_toArray, List.map_cons, List.map_nil]); rfl) ?_
    with_reducible refine (value_calls a za HA.out _).mono ?_
    rintro e w_ ⟨rfl, hw_⟩
    refine ⟨_, rfl, ?_⟩
    have hw2_ := hw_.symm
    clear hw_
    subst hw2_
    refine hK.out _ _ ⟨(blk_cell (blk_below DX_20.out M50.out.b) 2).trans rfl, (blk_cell (blk_below DY_20.out M50.out.b) 2).trans rfl, XA50.out, XB50.out⟩ (fun hHeld => ?_)
    clear hK K
    refine norm_ (a' := ?_) ?_ ?_
    rotate_left
    ·show Act.put _ (some 117) _ = _
     simp only [Act.put, List.setIfInBounds_toArray, List.set_cons_zero, List.set_cons_succ, i64_w, i32_w]
     rfl
    refine pure_ (i := 12) (N := some 118) (v := ?_) (a' := ?_) #[tt_,tt_,tt_,tt_,tt_,tt_,tt_,tt_,tt_,tt_,tt_,tt_,tt_] rfl rfl (by kernel_rfl) (fun _ _ _ h => h) (Or.inl ⟨by rfl, ?_⟩) ?_ ?_
    rotate_left
    ·intro w'
     go_simp
     with_reducible rfl
    rotate_left
    ·simp only [Act.put, List.setIfInBounds_toArray, List.set_cons_zero, List.set_cons_succ, i64_w, i32_w]
     rfl
    refine done_ (by kernel_rfl) ?_
    clear hHeld
    go_upto_region 13 with (fail)
    have M60 := Aside0.mk (M4.drew M50.out)
    have XB60 : Aside0 (w50.drew.cell? (adB.add i) = some (.int .u32 (b : Int))) := ⟨XB50.out⟩
    have z1 := (R_cellN M60.out.rl i HLT.out).1
    have zf := (R_cellN M60.out.rl i HLT.out).2
    refine start_ (n := 10) (S := fun w' => w'.cell? ⟨g7, 2, none⟩ = some (.slice (some ⟨gl, 0, none⟩) n cl) ∧ w'.cell? ⟨gY, 2, none⟩ = some (.slice (some adB) n capq) ∧ w'.cell? (adB.add i) = some (.int .u32 (b : Int))) (ds := [9]) #[ff_,ff_,ff_,ff_,ff_,ff_,ff_,ff_,ff_,ff_] (by kernel_rfl) rfl rfl ⟨(blk_cell M60.out.dl 2).trans rfl, (blk_cell (blk_below DY_20.out M60.out.b) 2).trans rfl, XB60.out⟩ (fun hHeld => ?_)
    generalize w50.drew = w60 at *
    refine pure_ (i := 0) (N := some 119) (v := ?_) (a' := ?_) #[tt_,ff_,ff_,ff_,ff_,ff_,ff_,ff_,ff_,ff_] rfl rfl (by kernel_rfl) (fun _ _ _ h => h) (Or.inl ⟨by rfl, ?_⟩) ?_ ?_
    rotate_left
    ·intro w'
     go_simp
     with_reducible rfl
    rotate_left
    ·simp only [Act.put, List.setIfInBounds_toArray, List.set_cons_zero, List.set_cons_succ, i64_w, i32_w]
     rfl
    refine pure_ (i := 2) (N := some 121) (v := ?_) (a' := ?_) #[tt_,ff_,tt_,ff_,ff_,ff_,ff_,ff_,ff_,ff_] rfl rfl (by kernel_rfl) (fun _ _ _ h => h) (Or.inl ⟨by rfl, ?_⟩) ?_ ?_
    rotate_left
    ·intro w'
     go_simp
     with_reducible rfl
    rotate_left
    ·simp only [Act.put, List.setIfInBounds_toArray, List.set_cons_zero, List.set_cons_succ, i64_w, i32_w]
     rfl
    refine pure_ (i := 3) (N := some 122) (v := ?_) (a' := ?_) #[tt_,ff_,tt_,tt_,ff_,ff_,ff_,ff_,ff_,ff_] rfl rfl (by kernel_rfl) (fun _ _ _ h => h) (Or.inl ⟨by rfl, ?_⟩) ?_ ?_
    rotate_left
    ·intro w'
     go_simp
     with_reducible rfl
    rotate_left
    ·simp only [Act.put, List.setIfInBounds_toArray, List.set_cons_zero, List.set_cons_succ, i64_w, i32_w]
     rfl
    refine pure_ (i := 5) (N := some 124) (v := ?_) (a' := ?_) #[tt_,ff_,tt_,tt_,ff_,tt_,ff_,ff_,ff_,ff_] rfl rfl (by kernel_rfl) (fun _ _ _ h => h) (Or.inl ⟨by rfl, ?_⟩) ?_ ?_
    rotate_left
    ·intro w'
     go_simp
     with_reducible rfl
    rotate_left
    ·simp only [Act.put, List.setIfInBounds_toArray, List.set_cons_zero, List.set_cons_succ, i64_w, i32_w]
     rfl
    refine take_ (i := 1) (N := some 120) (v := ?_) (a' := ?_) #[tt_,tt_,tt_,tt_,ff_,tt_,ff_,ff_,ff_,ff_] rfl rfl (by kernel_rfl) (fun _ _ _ h => h) (Or.inl ⟨by rfl, ?_⟩) hHeld ?_ ?_
    rotate_left
    ·rintro w' ⟨s0, s1, s2⟩
     go_simp
     with_reducible rfl
    rotate_left
    ·simp only [Act.put, List.setIfInBounds_toArray, List.set_cons_zero, List.set_cons_succ, i64_w, i32_w]
     rfl
    refine take_ (i := 4) (N := some 123) (v := ?_) (a' := ?_) #[tt_,tt_,tt_,tt_,tt_,tt_,ff_,ff_,ff_,ff_] rfl rfl (by kernel_rfl) (fun _ _ _ h => h) (Or.inl ⟨by rfl, ?_⟩) hHeld ?_ ?_
    rotate_left
    ·rintro w' ⟨s0, s1, s2⟩
     go_simp
     with_reducible rfl
    rotate_left
    ·simp only [Act.put, List.setIfInBounds_toArray, List.set_cons_zero, List.set_cons_succ, i64_w, i32_w]
     rfl
    refine pure_ (i := 6) (N := some 125) (v := ?_) (a' := ?_) #[tt_,tt_,tt_,tt_,tt_,tt_,tt_,ff_,ff_,ff_] rfl rfl (by kernel_rfl) (fun _ _ _ h => h) (Or.inl ⟨by rfl, ?_⟩) ?_ ?_
    rotate_left
    ·intro w'
     go_simp
     with_reducible rfl
    rotate_left
    ·simp only [Act.put, List.setIfInBounds_toArray, List.set_cons_zero, List.set_cons_succ, i64_w, i32_w]
     rfl
    refine take_ (i := 7) (N := some 126) (v := ?_) (a' := ?_) #[tt_,tt_,tt_,tt_,tt_,tt_,tt_,tt_,ff_,ff_] rfl rfl (by kernel_rfl) (fun _ _ _ h => h) (Or.inl ⟨by rfl, ?_⟩) hHeld ?_ ?_
    rotate_left
    ·rintro w' ⟨s0, s1, s2⟩
     go_simp
     with_reducible rfl
    rotate_left
    ·simp only [Act.put, List.setIfInBounds_toArray, List.set_cons_zero, List.set_cons_succ, i64_w, i32_w]
     rfl
    refine pure_ (i := 8) (N := some 127) (v := ?_) (a' := ?_) #[tt_,tt_,tt_,tt_,tt_,tt_,tt_,tt_,tt_,ff_] rfl rfl (by kernel_rfl) (fun _ _ _ h => h) (Or.inl ⟨by rfl, ?_⟩) ?_ ?_
    rotate_left
    ·intro w'
     go_simp
     with_reducible rfl
    rotate_left
    ·simp only [Act.put, List.setIfInBounds_toArray, List.set_cons_zero, List.set_cons_succ, i64_w, i32_w]
     rfl
    refine last_ (i := 9) (N := none) #[tt_,tt_,tt_,tt_,tt_,tt_,tt_,tt_,tt_,tt_] rfl rfl (by kernel_rfl) (by decide) (fun K hK => ?_)
    refine skip_ (w1 := ?_) (by rfl) rfl ?_ ?_
    rotate_left
    ·go_simp
     rfl
    refine hK.out _ _ ?_
    clear hK K
    refine done_ (by kernel_rfl) ?_
    clear hHeld
    have M61 := Aside0.mk (M4.putL M60.out GL.out i b)
    generalize w60.setCell ⟨gl, i, none⟩ (.int .u32 (b : Int)) = w61 at *
    clear z1 zf M60 XB60
    have hll : i < ls.length := by rw [IVI.out.l1]; exact HLT.out
    have hhl : i < hs.length := by rw [IVI.out.l2]; exact HLT.out
    have FL : Aside0 (gt (ls.set i b) i = b) := ⟨gt_set_i hll⟩
    have FH : Aside0 (gt hs i = a) := ⟨(IVI.out.same i (Nat.le_refl _)).2.trans HEA.out⟩
    have GL2 : Aside0 (∀ j, j ≠ i → gt (ls.set i b) j = gt ls j) := ⟨fun j hj => gt_set_ne hll hj⟩
    have GH2 : Aside0 (∀ j, j ≠ i → gt hs j = gt hs j) := ⟨fun _ _ => rfl⟩
    have LL : Aside0 ((ls.set i b).length = n) := ⟨by rw [List.length_set]; exact IVI.out.l1⟩
    have LH : Aside0 (hs.length = n) := ⟨IVI.out.l2⟩
    obtain ⟨lv2, hd1, hmin⟩ := min2_run HDL.out (dv_z HB.out).2
    obtain ⟨mv2, hd2, hmax⟩ := max2_run HDM.out (dv_z HA.out).2
    have HMIN := Aside0.mk (hmin)
    have HMAX := Aside0.mk (hmax)
    have IVN := Aside0.mk (IV.step IVI.out (by rw [HEA.out]; exact HA.out) HSL.out HSM.out HALL.out HB.out HA.out HLE.out LL.out LH.out FL.out FH.out GL2.out GH2.out hd1 hd2)
    clear hll hhl hd1 hd2 hmin hmax
    go_upto_region 15 with (fail)
    have M70 := Aside0.mk (M4.drew M61.out)
    have zL := (R_cellN M70.out.rl i HLT.out).1
    have zH := (R_cellN M70.out.rh i HLT.out).1
    rw [FL.out] at zL
    rw [FH.out] at zH
    have ZL := Aside0.mk (zL)
    have ZH := Aside0.mk (zH)
    clear zL zH M61
    refine start_ (n := 18) (S := fun w' => w'.cell? ⟨g7, 2, none⟩ = some (.slice (some ⟨gl, 0, none⟩) n cl) ∧ w'.cell? ⟨g8, 2, none⟩ = some (.slice (some ⟨gh, 0, none⟩) n ch) ∧ w'.cell? ⟨gl, i, none⟩ = some (.int .u32 (b : Int)) ∧ w'.cell? ⟨gh, i, none⟩ = some (.int .u32 (a : Int))) (ds := []) #[ff_,ff_,ff_,ff_,ff_,ff_,ff_,ff_,ff_,ff_,ff_,ff_,ff_,ff_,ff_,ff_,ff_,ff_] (by kernel_rfl) rfl rfl ⟨(blk_cell M70.out.dl 2).trans rfl, (blk_cell M70.out.dh 2).trans rfl, ZL.out, ZH.out⟩ (fun hHeld => ?_)
    generalize w61.drew = w70 at *
    refine pure_ (i := 0) (N := some 137) (v := ?_) (a' := ?_) #[tt_,ff_,ff_,ff_,ff_,ff_,ff_,ff_,ff_,ff_,ff_,ff_,ff_,ff_,ff_,ff_,ff_,ff_] rfl rfl (by kernel_rfl) (fun _ _ _ h => h) (Or.inl ⟨by rfl, ?_⟩) ?_ ?_
    rotate_left
    ·intro w'
     go_simp
     with_reducible rfl
    rotate_left
    ·simp only [Act.put, List.setIfInBounds_toArray, List.set_cons_zero, List.set_cons_succ, i64_w, i32_w]
     rfl
    refine pure_ (i := 1) (N := some 138) (v := ?_) (a' := ?_) #[tt_,tt_,ff_,ff_,ff_,ff_,ff_,ff_,ff_,ff_,ff_,ff_,ff_,ff_,ff_,ff_,ff_,ff_] rfl rfl (by kernel_rfl) (fun _ _ _ h => h) (Or.inl ⟨by rfl, ?_⟩) ?_ ?_
    rotate_left
    ·intro w'
     go_simp
     with_reducible rfl
    rotate_left
    ·simp only [Act.put, List.setIfInBounds_toArray, List.set_cons_zero, List.set_cons_succ, i64_w, i32_w]
     rfl
    refine pure_ (i := 3) (N := some 140) (v := ?_) (a' := ?_) #[tt_,tt_,ff_,tt_,ff_,ff_,ff_,ff_,ff_,ff_,ff_,ff_,ff_,ff_,ff_,ff_,ff_,ff_] rfl rfl (by kernel_rfl) (fun _ _ _ h => h) (Or.inl ⟨by rfl, ?_⟩) ?_ ?_
    rotate_left
    ·intro w'
     go_simp
     with_reducible rfl
    rotate_left
    ·simp only [Act.put, List.setIfInBounds_toArray, List.set_cons_zero, List.set_cons_succ, i64_w, i32_w]
     rfl
    refine pure_ (i := 8) (N := some 145) (v := ?_) (a' := ?_) #[tt_,tt_,ff_,tt_,ff_,ff_,ff_,ff_,tt_,ff_,ff_,ff_,ff_,ff_,ff_,ff_,ff_,ff_] rfl rfl (by kernel_rfl) (fun _ _ _ h => h) (Or.inl ⟨by rfl, ?_⟩) ?_ ?_
    rotate_left
    ·intro w'
     go_simp
     with_reducible rfl
    rotate_left
    ·simp only [Act.put, List.setIfInBounds_toArray, List.set_cons_zero, List.set_cons_succ, i64_w, i32_w]
     rfl
    refine pure_ (i := 9) (N := some 146) (v := ?_) (a' := ?_) #[tt_,tt_,ff_,tt_,ff_,ff_,ff_,ff_,tt_,tt_,ff_,ff_,ff_,ff_,ff_,ff_,ff_,ff_] rfl rfl (by kernel_rfl) (fun _ _ _ h => h) (Or.inl ⟨by rfl, ?_⟩) ?_ ?_
    rotate_left
    ·intro w'
     go_simp
     with_reducible rfl
    rotate_left
    ·simp only [Act.put, List.setIfInBounds_toArray, List.set_cons_zero, List.set_cons_succ, i64_w, i32_w]
     rfl
    refine pure_ (i := 11) (N := some 148) (v := ?_) (a' := ?_) #[tt_,tt_,ff_,tt_,ff_,ff_,ff_,ff_,tt_,tt_,ff_,tt_,ff_,ff_,ff_,ff_,ff_,ff_] rfl rfl (by kernel_rfl) (fun _ _ _ h => h) (Or.inl ⟨by rfl, ?_⟩) ?_ ?_
    rotate_left
    ·intro w'
     go_simp
     with_reducible rfl
    rotate_left
    ·simp only [Act.put, List.setIfInBounds_toArray, List.set_cons_zero, List.set_cons_succ, i64_w, i32_w]
     rfl
    refine take_ (i := 2) (N := some 139) (v := ?_) (a' := ?_) #[tt_,tt_,tt_,tt_,ff_,ff_,ff_,ff_,tt_,tt_,ff_,tt_,ff_,ff_,ff_,ff_,ff_,ff_] rfl rfl (by kernel_rfl) (fun _ _ _ h => h) (Or.inl ⟨by rfl, ?_⟩) hHeld ?_ ?_
    rotate_left
    ·rintro w' ⟨s0, s1, s2, s3⟩
     go_simp
     with_reducible rfl
    rotate_left
    ·simp only [Act.put, List.setIfInBounds_toArray, List.set_cons_zero, List.set_cons_succ, i64_w, i32_w]
     rfl
    refine pure_ (i := 4) (N := some 141) (v := ?_) (a' := ?_) #[tt_,tt_,tt_,tt_,tt_,ff_,ff_,ff_,tt_,tt_,ff_,tt_,ff_,ff_,ff_,ff_,ff_,ff_] rfl rfl (by kernel_rfl) (fun _ _ _ h => h) (Or.inl ⟨by rfl, ?_⟩) ?_ ?_
    rotate_left
    ·intro w'
     go_simp
     with_reducible rfl
    rotate_left
    ·simp only [Act.put, List.setIfInBounds_toArray, List.set_cons_zero, List.set_cons_succ, i64_w, i32_w]
     rfl
    refine take_ (i := 5) (N := some 142) (v := ?_) (a' := ?_) #[tt_,tt_,tt_,tt_,tt_,tt_,ff_,ff_,tt_,tt_,ff_,tt_,ff_,ff_,ff_,ff_,ff_,ff_] rfl rfl (by kernel_rfl) (fun _ _ _ h => h) (Or.inl ⟨by rfl, ?_⟩) hHeld ?_ ?_
    rotate_left
    ·rintro w' ⟨s0, s1, s2, s3⟩
     go_simp
     with_reducible rfl
    rotate_left
    ·simp only [Act.put, List.setIfInBounds_toArray, List.set_cons_zero, List.set_cons_succ, i64_w, i32_w]
     rfl
    refine take_ (i := 10) (N := some 147) (v := ?_) (a' := ?_) #[tt_,tt_,tt_,tt_,tt_,tt_,ff_,ff_,tt_,tt_,tt_,tt_,ff_,ff_,ff_,ff_,ff_,ff_] rfl rfl (by kernel_rfl) (fun _ _ _ h => h) (Or.inl ⟨by rfl, ?_⟩) hHeld ?_ ?_
    rotate_left
    ·rintro w' ⟨s0, s1, s2, s3⟩
     go_simp
     with_reducible rfl
    rotate_left
    ·simp only [Act.put, List.setIfInBounds_toArray, List.set_cons_zero, List.set_cons_succ, i64_w, i32_w]
     rfl
    refine pure_ (i := 12) (N := some 149) (v := ?_) (a' := ?_) #[tt_,tt_,tt_,tt_,tt_,tt_,ff_,ff_,tt_,tt_,tt_,tt_,tt_,ff_,ff_,ff_,ff_,ff_] rfl rfl (by kernel_rfl) (fun _ _ _ h => h) (Or.inl ⟨by rfl, ?_⟩) ?_ ?_
    rotate_left
    ·intro w'
     go_simp
     with_reducible rfl
    rotate_left
    ·simp only [Act.put, List.setIfInBounds_toArray, List.set_cons_zero, List.set_cons_succ, i64_w, i32_w]
     rfl
    refine take_ (i := 13) (N := some 150) (v := ?_) (a' := ?_) #[tt_,tt_,tt_,tt_,tt_,tt_,ff_,ff_,tt_,tt_,tt_,tt_,tt_,tt_,ff_,ff_,ff_,ff_] rfl rfl (by kernel_rfl) (fun _ _ _ h => h) (Or.inl ⟨by rfl, ?_⟩) hHeld ?_ ?_
    rotate_left
    ·rintro w' ⟨s0, s1, s2, s3⟩
     go_simp
     with_reducible rfl
    rotate_left
    ·simp only [Act.put, List.setIfInBounds_toArray, List.set_cons_zero, List.set_cons_succ, i64_w, i32_w]
     rfl
    refine one_ (i := 6) (N := some 143) #[tt_,tt_,tt_,tt_,tt_,tt_,tt_,ff_,tt_,tt_,tt_,tt_,tt_,tt_,ff_,ff_,ff_,ff_] rfl rfl (by kernel_rfl) (by decide) (fun K hK => ?_)
    refine goes_ Try.func28 (by kernel_rfl) rfl #[.int .u32 (b : Int)] (by rfl) rfl rfl (by (try simp only [List.map_toArray, List.map_cons, List.map_nil]); rfl) ?_
    with_reducible refine (value_calls b zb HB.out _).mono ?_
    rintro e w_ ⟨rfl, hw_⟩
    refine ⟨_, rfl, ?_⟩
    have hw2_ := hw_.symm
    clear hw_
    subst hw2_
    refine hK.out _ _ ⟨(blk_cell M70.out.dl 2).trans rfl, (blk_cell M70.out.dh 2).trans rfl, ZL.out, ZH.out⟩ (fun hHeld => ?_)
    clear hK K
    refine norm_ (a' := ?_) ?_ ?_
    rotate_left
    ·show Act.put _ (some 143) _ = _
     simp only [Act.put, List.setIfInBounds_toArray, List.set_cons_zero, List.set_cons_succ, i64_w, i32_w]
     rfl
    refine join_ (σ := Unit) 1 #[tt_,tt_,tt_,tt_,tt_,tt_,tt_,tt_,tt_,tt_,tt_,tt_,tt_,tt_,tt_,tt_,tt_,ff_] (fun _ => [(144, .float .f64 lv2), (151, .float .f64 (dv a)), (152, .float .f64 mv2), (9, .float .f64 lv2)]) (fun _ w' => w' = w70) ?_ ?_
    rotate_left
    ·intro hCont
     refine two_ (i := 7) (j := 14) (Ni := some 144) (Nj := some 151) #[tt_,tt_,tt_,tt_,tt_,tt_,tt_,tt_,tt_,tt_,tt_,tt_,tt_,tt_,ff_,ff_,ff_,ff_] #[tt_,tt_,tt_,tt_,tt_,tt_,tt_,ff_,tt_,tt_,tt_,tt_,tt_,tt_,tt_,ff_,ff_,ff_] rfl rfl rfl rfl (by kernel_rfl) (by decide) (by decide) (fun K hK => ?_) (fun K hK => ?_)
     ·skip
      refine value_ (w1 := w70) (v := .float .f64 lv2) (by rfl) rfl (min_exec rfl (by rfl) (by rfl) HMIN.out _) ?_
      refine hK.out _ _ ⟨(blk_cell M70.out.dl 2).trans rfl, (blk_cell M70.out.dh 2).trans rfl, ZL.out, ZH.out⟩ (fun hHeld => ?_)
      clear hK K
      refine norm_ (a' := ?_) ?_ ?_
      rotate_left
      ·show Act.put _ (some 144) _ = _
       simp only [Act.put, List.setIfInBounds_toArray, List.set_cons_zero, List.set_cons_succ, i64_w, i32_w]
       rfl
      refine one_ (i := 14) (N := some 151) #[tt_,tt_,tt_,tt_,tt_,tt_,tt_,tt_,tt_,tt_,tt_,tt_,tt_,tt_,tt_,ff_,ff_,ff_] rfl rfl (by kernel_rfl) (by decide) (fun K hK => ?_)
      refine goes_ Try.func28 (by kernel_rfl) rfl #[.int .u32 (a : Int)] (by rfl) rfl rfl (by (try simp only [List.map_toArray, List.map_cons, List.map_nil]); rfl) ?_
      with_reducible refine (value_calls a za HA.out _).mono ?_
      rintro e w_ ⟨rfl, hw_⟩
      refine ⟨_, rfl, ?_⟩
      have hw2_ := hw_.symm
      clear hw_
      subst hw2_
      refine hK.out _ _ ⟨(blk_cell M70.out.dl 2).trans rfl, (blk_cell M70.out.dh 2).trans rfl, ZL.out, ZH.out⟩ (fun hHeld => ?_)
      clear hK K
      refine norm_ (a' := ?_) ?_ ?_
      rotate_left
      ·show Act.put _ (some 151) _ = _
       simp only [Act.put, List.setIfInBounds_toArray, List.set_cons_zero, List.set_cons_succ, i64_w, i32_w]
       rfl
      refine pure_ (i := 16) (N := some 9) (v := ?_) (a' := ?_) #[tt_,tt_,tt_,tt_,tt_,tt_,tt_,tt_,tt_,tt_,tt_,tt_,tt_,tt_,tt_,ff_,tt_,ff_] rfl rfl (by kernel_rfl) (fun _ _ _ h => h) (Or.inl ⟨by rfl, ?_⟩) ?_ ?_
      rotate_left
      ·intro w'
       go_simp
       with_reducible rfl
      rotate_left
      ·simp only [Act.put, List.setIfInBounds_toArray, List.set_cons_zero, List.set_cons_succ, i64_w, i32_w]
       rfl
      refine one_ (i := 15) (N := some 152) #[tt_,tt_,tt_,tt_,tt_,tt_,tt_,tt_,tt_,tt_,tt_,tt_,tt_,tt_,tt_,tt_,tt_,ff_] rfl rfl (by kernel_rfl) (by decide) (fun K hK => ?_)
      refine value_ (w1 := w70) (v := .float .f64 mv2) (by rfl) rfl (max_exec rfl (by rfl) (by rfl) HMAX.out _) ?_
      refine hK.out _ _ ⟨(blk_cell M70.out.dl 2).trans rfl, (blk_cell M70.out.dh 2).trans rfl, ZL.out, ZH.out⟩ (fun hHeld => ?_)
      clear hK K
      refine norm_ (a' := ?_) ?_ ?_
      rotate_left
      ·show Act.put _ (some 152) _ = _
       simp only [Act.put, List.setIfInBounds_toArray, List.set_cons_zero, List.set_cons_succ, i64_w, i32_w]
       rfl
      exact norm_ (by rfl) (hCont () _ rfl)
     ·skip
      refine goes_ Try.func28 (by kernel_rfl) rfl #[.int .u32 (a : Int)] (by rfl) rfl rfl (by (try simp only [List.map_toArray, List.map_cons, List.map_nil]); rfl) ?_
      with_reducible refine (value_calls a za HA.out _).mono ?_
      rintro e w_ ⟨rfl, hw_⟩
      refine ⟨_, rfl, ?_⟩
      have hw2_ := hw_.symm
      clear hw_
      subst hw2_
      refine hK.out _ _ ⟨(blk_cell M70.out.dl 2).trans rfl, (blk_cell M70.out.dh 2).trans rfl, ZL.out, ZH.out⟩ (fun hHeld => ?_)
      clear hK K
      refine norm_ (a' := ?_) ?_ ?_
      rotate_left
      ·show Act.put _ (some 151) _ = _
       simp only [Act.put, List.setIfInBounds_toArray, List.set_cons_zero, List.set_cons_succ, i64_w, i32_w]
       rfl
      refine two_ (i := 7) (j := 15) (Ni := some 144) (Nj := some 152) #[tt_,tt_,tt_,tt_,tt_,tt_,tt_,tt_,tt_,tt_,tt_,tt_,tt_,tt_,tt_,ff_,ff_,ff_] #[tt_,tt_,tt_,tt_,tt_,tt_,tt_,ff_,tt_,tt_,tt_,tt_,tt_,tt_,tt_,tt_,ff_,ff_] rfl rfl rfl rfl (by kernel_rfl) (by decide) (by decide) (fun K hK => ?_) (fun K hK => ?_)
      ·skip
       refine value_ (w1 := w70) (v := .float .f64 lv2) (by rfl) rfl (min_exec rfl (by rfl) (by rfl) HMIN.out _) ?_
       refine hK.out _ _ ⟨(blk_cell M70.out.dl 2).trans rfl, (blk_cell M70.out.dh 2).trans rfl, ZL.out, ZH.out⟩ (fun hHeld => ?_)
       clear hK K
       refine norm_ (a' := ?_) ?_ ?_
       rotate_left
       ·show Act.put _ (some 144) _ = _
        simp only [Act.put, List.setIfInBounds_toArray, List.set_cons_zero, List.set_cons_succ, i64_w, i32_w]
        rfl
       refine pure_ (i := 16) (N := some 9) (v := ?_) (a' := ?_) #[tt_,tt_,tt_,tt_,tt_,tt_,tt_,tt_,tt_,tt_,tt_,tt_,tt_,tt_,tt_,ff_,tt_,ff_] rfl rfl (by kernel_rfl) (fun _ _ _ h => h) (Or.inl ⟨by rfl, ?_⟩) ?_ ?_
       rotate_left
       ·intro w'
        go_simp
        with_reducible rfl
       rotate_left
       ·simp only [Act.put, List.setIfInBounds_toArray, List.set_cons_zero, List.set_cons_succ, i64_w, i32_w]
        rfl
       refine one_ (i := 15) (N := some 152) #[tt_,tt_,tt_,tt_,tt_,tt_,tt_,tt_,tt_,tt_,tt_,tt_,tt_,tt_,tt_,tt_,tt_,ff_] rfl rfl (by kernel_rfl) (by decide) (fun K hK => ?_)
       refine value_ (w1 := w70) (v := .float .f64 mv2) (by rfl) rfl (max_exec rfl (by rfl) (by rfl) HMAX.out _) ?_
       refine hK.out _ _ ⟨(blk_cell M70.out.dl 2).trans rfl, (blk_cell M70.out.dh 2).trans rfl, ZL.out, ZH.out⟩ (fun hHeld => ?_)
       clear hK K
       refine norm_ (a' := ?_) ?_ ?_
       rotate_left
       ·show Act.put _ (some 152) _ = _
        simp only [Act.put, List.setIfInBounds_toArray, List.set_cons_zero, List.set_cons_succ, i64_w, i32_w]
        rfl
       exact norm_ (by rfl) (hCont () _ rfl)
      ·skip
       refine value_ (w1 := w70) (v := .float .f64 mv2) (by rfl) rfl (max_exec rfl (by rfl) (by rfl) HMAX.out _) ?_
       refine hK.out _ _ ⟨(blk_cell M70.out.dl 2).trans rfl, (blk_cell M70.out.dh 2).trans rfl, ZL.out, ZH.out⟩ (fun hHeld => ?_)
       clear hK K
       refine norm_ (a' := ?_) ?_ ?_
       rotate_left
       ·show Act.put _ (some 152) _ = _
        simp only [Act.put, List.setIfInBounds_toArray, List.set_cons_zero, List.set_cons_succ, i64_w, i32_w]
        rfl
       refine one_ (i := 7) (N := some 144) #[tt_,tt_,tt_,tt_,tt_,tt_,tt_,tt_,tt_,tt_,tt_,tt_,tt_,tt_,tt_,tt_,ff_,ff_] rfl rfl (by kernel_rfl) (by decide) (fun K hK => ?_)
       refine value_ (w1 := w70) (v := .float .f64 lv2) (by rfl) rfl (min_exec rfl (by rfl) (by rfl) HMIN.out _) ?_
       refine hK.out _ _ ⟨(blk_cell M70.out.dl 2).trans rfl, (blk_cell M70.out.dh 2).trans rfl, ZL.out, ZH.out⟩ (fun hHeld => ?_)
       clear hK K
       refine norm_ (a' := ?_) ?_ ?_
       rotate_left
       ·show Act.put _ (some 144) _ = _
        simp only [Act.put, List.setIfInBounds_toArray, List.set_cons_zero, List.set_cons_succ, i64_w, i32_w]
        rfl
       refine pure_ (i := 16) (N := some 9) (v := ?_) (a' := ?_) #[tt_,tt_,tt_,tt_,tt_,tt_,tt_,tt_,tt_,tt_,tt_,tt_,tt_,tt_,tt_,tt_,tt_,ff_] rfl rfl (by kernel_rfl) (fun _ _ _ h => h) (Or.inl ⟨by rfl, ?_⟩) ?_ ?_
       rotate_left
       ·intro w'
        go_simp
        with_reducible rfl
       rotate_left
       ·simp only [Act.put, List.setIfInBounds_toArray, List.set_cons_zero, List.set_cons_succ, i64_w, i32_w]
        rfl
       exact norm_ (by rfl) (hCont () _ rfl)
    rintro ⟨⟩ wz_ hwz_
    have hwz2_ := hwz_.symm
    clear hwz_
    subst hwz2_
    have hHeld : (w70.cell? ⟨g7, 2, none⟩ = some (.slice (some ⟨gl, 0, none⟩) n cl)) ∧ (w70.cell? ⟨g8, 2, none⟩ = some (.slice (some ⟨gh, 0, none⟩) n ch)) ∧ (w70.cell? ⟨gl, i, none⟩ = some (.int .u32 (b : Int))) ∧ (w70.cell? ⟨gh, i, none⟩ = some (.int .u32 (a : Int))) := ⟨(blk_cell M70.out.dl 2).trans rfl, (blk_cell M70.out.dh 2).trans rfl, ZL.out, ZH.out⟩
    refine norm_ (a' := ?_) ?_ ?_
    rotate_left
    ·simp only [YtodlgdpkadkjjaaW.PrintLast.putAll, Act.put, List.setIfInBounds_toArray, List.set_cons_zero, List.set_cons_succ]
     rfl
    refine pure_ (i := 17) (N := some 10) (v := ?_) (a' := ?_) #[tt_,tt_,tt_,tt_,tt_,tt_,tt_,tt_,tt_,tt_,tt_,tt_,tt_,tt_,tt_,tt_,tt_,tt_] rfl rfl (by kernel_rfl) (fun _ _ _ h => h) (Or.inl ⟨by rfl, ?_⟩) ?_ ?_
    rotate_left
    ·intro w'
     go_simp
     with_reducible rfl
    rotate_left
    ·simp only [Act.put, List.setIfInBounds_toArray, List.set_cons_zero, List.set_cons_succ, i64_w, i32_w]
     rfl
    refine done_ (by kernel_rfl) ?_
    clear hHeld
    go_wp2
    go_roundw
    case measure => simp [intOf]; have := HLT.out; omega
    case rel => exact ⟨i + 1, lv2, mv2, (ls.set i b), hs, HLT.out, rfl, rfl, by go_num, M70, IVN⟩
   ·obtain ⟨k1, k2⟩ := lss_f (dv_z HB.out).2 (dv_z HA.out).2 hz
    have HLE := Aside0.mk (Int.not_lt.mp hz)
    refine start_ (n := 13) (S := fun w' => w'.cell? ⟨gX, 2, none⟩ = some (.slice (some adA) n cap) ∧ w'.cell? ⟨gY, 2, none⟩ = some (.slice (some adB) n capq) ∧ w'.cell? (adA.add i) = some (.int .u32 (a : Int)) ∧ w'.cell? (adB.add i) = some (.int .u32 (b : Int))) (ds := []) #[ff_,ff_,ff_,ff_,ff_,ff_,ff_,ff_,ff_,ff_,ff_,ff_,ff_] (by kernel_rfl) rfl rfl ⟨(blk_cell (blk_below DX_20.out M50.out.b) 2).trans rfl, (blk_cell (blk_below DY_20.out M50.out.b) 2).trans rfl, XA50.out, XB50.out⟩ (fun hHeld => ?_)
    generalize wr.drew = w50 at *
    refine pure_ (i := 0) (N := some 106) (v := ?_) (a' := ?_) #[tt_,ff_,ff_,ff_,ff_,ff_,ff_,ff_,ff_,ff_,ff_,ff_,ff_] rfl rfl (by kernel_rfl) (fun _ _ _ h => h) (Or.inl ⟨by rfl, ?_⟩) ?_ ?_
    rotate_left
    ·intro w'
     go_simp
     with_reducible rfl
    rotate_left
    ·simp only [Act.put, List.setIfInBounds_toArray, List.set_cons_zero, List.set_cons_succ, i64_w, i32_w]
     rfl
    refine pure_ (i := 2) (N := some 108) (v := ?_) (a' := ?_) #[tt_,ff_,tt_,ff_,ff_,ff_,ff_,ff_,ff_,ff_,ff_,ff_,ff_] rfl rfl (by kernel_rfl) (fun _ _ _ h => h) (Or.inl ⟨by rfl, ?_⟩) ?_ ?_
    rotate_left
    ·intro w'
     go_simp
     with_reducible rfl
    rotate_left
    ·simp only [Act.put, List.setIfInBounds_toArray, List.set_cons_zero, List.set_cons_succ, i64_w, i32_w]
     rfl
    refine pure_ (i := 6) (N := some 112) (v := ?_) (a' := ?_) #[tt_,ff_,tt_,ff_,ff_,ff_,tt_,ff_,ff_,ff_,ff_,ff_,ff_] rfl rfl (by kernel_rfl) (fun _ _ _ h => h) (Or.inl ⟨by rfl, ?_⟩) ?_ ?_
    rotate_left
    ·intro w'
     go_simp
     with_reducible rfl
    rotate_left
    ·simp only [Act.put, List.setIfInBounds_toArray, List.set_cons_zero, List.set_cons_succ, i64_w, i32_w]
     rfl
    refine pure_ (i := 8) (N := some 114) (v := ?_) (a' := ?_) #[tt_,ff_,tt_,ff_,ff_,ff_,tt_,ff_,tt_,ff_,ff_,ff_,ff_] rfl rfl (by kernel_rfl) (fun _ _ _ h => h) (Or.inl ⟨by rfl, ?_⟩) ?_ ?_
    rotate_left
    ·intro w'
     go_simp
     with_reducible rfl
    rotate_left
    ·simp only [Act.put, List.setIfInBounds_toArray, List.set_cons_zero, List.set_cons_succ, i64_w, i32_w]
     rfl
    refine take_ (i := 1) (N := some 107) (v := ?_) (a' := ?_) #[tt_,tt_,tt_,ff_,ff_,ff_,tt_,ff_,tt_,ff_,ff_,ff_,ff_] rfl rfl (by kernel_rfl) (fun _ _ _ h => h) (Or.inl ⟨by rfl, ?_⟩) hHeld ?_ ?_
    rotate_left
    ·rintro w' ⟨s0, s1, s2, s3⟩
     go_simp
     with_reducible rfl
    rotate_left
    ·simp only [Act.put, List.setIfInBounds_toArray, List.set_cons_zero, List.set_cons_succ, i64_w, i32_w]
     rfl
    refine pure_ (i := 3) (N := some 109) (v := ?_) (a' := ?_) #[tt_,tt_,tt_,tt_,ff_,ff_,tt_,ff_,tt_,ff_,ff_,ff_,ff_] rfl rfl (by kernel_rfl) (fun _ _ _ h => h) (Or.inl ⟨by rfl, ?_⟩) ?_ ?_
    rotate_left
    ·intro w'
     go_simp
     with_reducible rfl
    rotate_left
    ·simp only [Act.put, List.setIfInBounds_toArray, List.set_cons_zero, List.set_cons_succ, i64_w, i32_w]
     rfl
    refine take_ (i := 4) (N := some 110) (v := ?_) (a' := ?_) #[tt_,tt_,tt_,tt_,tt_,ff_,tt_,ff_,tt_,ff_,ff_,ff_,ff_] rfl rfl (by kernel_rfl) (fun _ _ _ h => h) (Or.inl ⟨by rfl, ?_⟩) hHeld ?_ ?_
    rotate_left
    ·rintro w' ⟨s0, s1, s2, s3⟩
     go_simp
     with_reducible rfl
    rotate_left
    ·simp only [Act.put, List.setIfInBounds_toArray, List.set_cons_zero, List.set_cons_succ, i64_w, i32_w]
     rfl
    refine take_ (i := 7) (N := some 113) (v := ?_) (a' := ?_) #[tt_,tt_,tt_,tt_,tt_,ff_,tt_,tt_,tt_,ff_,ff_,ff_,ff_] rfl rfl (by kernel_rfl) (fun _ _ _ h => h) (Or.inl ⟨by rfl, ?_⟩) hHeld ?_ ?_
    rotate_left
    ·rintro w' ⟨s0, s1, s2, s3⟩
     go_simp
     with_reducible rfl
    rotate_left
    ·simp only [Act.put, List.setIfInBounds_toArray, List.set_cons_zero, List.set_cons_succ, i64_w, i32_w]
     rfl
    refine pure_ (i := 9) (N := some 115) (v := ?_) (a' := ?_) #[tt_,tt_,tt_,tt_,tt_,ff_,tt_,tt_,tt_,tt_,ff_,ff_,ff_] rfl rfl (by kernel_rfl) (fun _ _ _ h => h) (Or.inl ⟨by rfl, ?_⟩) ?_ ?_
    rotate_left
    ·intro w'
     go_simp
     with_reducible rfl
    rotate_left
    ·simp only [Act.put, List.setIfInBounds_toArray, List.set_cons_zero, List.set_cons_succ, i64_w, i32_w]
     rfl
    refine take_ (i := 10) (N := some 116) (v := ?_) (a' := ?_) #[tt_,tt_,tt_,tt_,tt_,ff_,tt_,tt_,tt_,tt_,tt_,ff_,ff_] rfl rfl (by kernel_rfl) (fun _ _ _ h => h) (Or.inl ⟨by rfl, ?_⟩) hHeld ?_ ?_
    rotate_left
    ·rintro w' ⟨s0, s1, s2, s3⟩
     go_simp
     with_reducible rfl
    rotate_left
    ·simp only [Act.put, List.setIfInBounds_toArray, List.set_cons_zero, List.set_cons_succ, i64_w, i32_w]
     rfl
    refine one_ (i := 5) (N := some 111) #[tt_,tt_,tt_,tt_,tt_,tt_,tt_,tt_,tt_,tt_,tt_,ff_,ff_] rfl rfl (by kernel_rfl) (by decide) (fun K hK => ?_)
    refine goes_ Try.func28 (by kernel_rfl) rfl #[.int .u32 (b : Int)] (by rfl) rfl rfl (by (try simp only [List.map_toArray, List.map_cons, List.map_nil]); rfl) ?_
    with_reducible refine (value_calls b zb HB.out _).mono ?_
    rintro e w_ ⟨rfl, hw_⟩
    refine ⟨_, rfl, ?_⟩
    have hw2_ := hw_.symm
    clear hw_
    subst hw2_
    refine hK.out _ _ ⟨(blk_cell (blk_below DX_20.out M50.out.b) 2).trans rfl, (blk_cell (blk_below DY_20.out M50.out.b) 2).trans rfl, XA50.out, XB50.out⟩ (fun hHeld => ?_)
    clear hK K
    refine norm_ (a' := ?_) ?_ ?_
    rotate_left
    ·show Act.put _ (some 111) _ = _
     simp only [Act.put, List.setIfInBounds_toArray, List.set_cons_zero, List.set_cons_succ, i64_w, i32_w]
     rfl
    refine one_ (i := 11) (N := some 117) #[tt_,tt_,tt_,tt_,tt_,tt_,tt_,tt_,tt_,tt_,tt_,tt_,ff_] rfl rfl (by kernel_rfl) (by decide) (fun K hK => ?_)
    refine goes_ Try.func28 (by kernel_rfl) rfl #[.int .u32 (a : Int)] (by rfl) rfl rfl (by (try simp only [List.map_toArray, List.map_cons, List.map_nil]); rfl) ?_
    with_reducible refine (value_calls a za HA.out _).mono ?_
    rintro e w_ ⟨rfl, hw_⟩
    refine ⟨_, rfl, ?_⟩
    have hw2_ := hw_.symm
    clear hw_
    subst hw2_
    refine hK.out _ _ ⟨(blk_cell (blk_below DX_20.out M50.out.b) 2).trans rfl, (blk_cell (blk_below DY_20.out M50.out.b) 2).trans rfl, XA50.out, XB50.out⟩ (fun hHeld => ?_)
    clear hK K
    refine norm_ (a' := ?_) ?_ ?_
    rotate_left
    ·show Act.put _ (some 117) _ = _
     simp only [Act.put, List.setIfInBounds_toArray, List.set_cons_zero, List.set_cons_succ, i64_w, i32_w]
     rfl
    refine pure_ (i := 12) (N := some 118) (v := ?_) (a' := ?_) #[tt_,tt_,tt_,tt_,tt_,tt_,tt_,tt_,tt_,tt_,tt_,tt_,tt_] rfl rfl (by kernel_rfl) (fun _ _ _ h => h) (Or.inl ⟨by rfl, ?_⟩) ?_ ?_
    rotate_left
    ·intro w'
     go_simp
     with_reducible rfl
    rotate_left
    ·simp only [Act.put, List.setIfInBounds_toArray, List.set_cons_zero, List.set_cons_succ, i64_w, i32_w]
     rfl
    refine done_ (by kernel_rfl) ?_
    clear hHeld
    go_upto_region 14 with (fail)
    have M60 := Aside0.mk (M4.drew M50.out)
    have XB60 : Aside0 (w50.drew.cell? (adB.add i) = some (.int .u32 (b : Int))) := ⟨XB50.out⟩
    have z1 := (R_cellN M60.out.rh i HLT.out).1
    have zf := (R_cellN M60.out.rh i HLT.out).2
    refine start_ (n := 10) (S := fun w' => w'.cell? ⟨g8, 2, none⟩ = some (.slice (some ⟨gh, 0, none⟩) n ch) ∧ w'.cell? ⟨gY, 2, none⟩ = some (.slice (some adB) n capq) ∧ w'.cell? (adB.add i) = some (.int .u32 (b : Int))) (ds := [9]) #[ff_,ff_,ff_,ff_,ff_,ff_,ff_,ff_,ff_,ff_] (by kernel_rfl) rfl rfl ⟨(blk_cell M60.out.dh 2).trans rfl, (blk_cell (blk_below DY_20.out M60.out.b) 2).trans rfl, XB60.out⟩ (fun hHeld => ?_)
    generalize w50.drew = w60 at *
    refine pure_ (i := 0) (N := some 128) (v := ?_) (a' := ?_) #[tt_,ff_,ff_,ff_,ff_,ff_,ff_,ff_,ff_,ff_] rfl rfl (by kernel_rfl) (fun _ _ _ h => h) (Or.inl ⟨by rfl, ?_⟩) ?_ ?_
    rotate_left
    ·intro w'
     go_simp
     with_reducible rfl
    rotate_left
    ·simp only [Act.put, List.setIfInBounds_toArray, List.set_cons_zero, List.set_cons_succ, i64_w, i32_w]
     rfl
    refine pure_ (i := 2) (N := some 130) (v := ?_) (a' := ?_) #[tt_,ff_,tt_,ff_,ff_,ff_,ff_,ff_,ff_,ff_] rfl rfl (by kernel_rfl) (fun _ _ _ h => h) (Or.inl ⟨by rfl, ?_⟩) ?_ ?_
    rotate_left
    ·intro w'
     go_simp
     with_reducible rfl
    rotate_left
    ·simp only [Act.put, List.setIfInBounds_toArray, List.set_cons_zero, List.set_cons_succ, i64_w, i32_w]
     rfl
    refine pure_ (i := 3) (N := some 131) (v := ?_) (a' := ?_) #[tt_,ff_,tt_,tt_,ff_,ff_,ff_,ff_,ff_,ff_] rfl rfl (by kernel_rfl) (fun _ _ _ h => h) (Or.inl ⟨by rfl, ?_⟩) ?_ ?_
    rotate_left
    ·intro w'
     go_simp
     with_reducible rfl
    rotate_left
    ·simp only [Act.put, List.setIfInBounds_toArray, List.set_cons_zero, List.set_cons_succ, i64_w, i32_w]
     rfl
    refine pure_ (i := 5) (N := some 133) (v := ?_) (a' := ?_) #[tt_,ff_,tt_,tt_,ff_,tt_,ff_,ff_,ff_,ff_] rfl rfl (by kernel_rfl) (fun _ _ _ h => h) (Or.inl ⟨by rfl, ?_⟩) ?_ ?_
    rotate_left
    ·intro w'
     go_simp
     with_reducible rfl
    rotate_left
    ·simp only [Act.put, List.setIfInBounds_toArray, List.set_cons_zero, List.set_cons_succ, i64_w, i32_w]
     rfl
    refine take_ (i := 1) (N := some 129) (v := ?_) (a' := ?_) #[tt_,tt_,tt_,tt_,ff_,tt_,ff_,ff_,ff_,ff_] rfl rfl (by kernel_rfl) (fun _ _ _ h => h) (Or.inl ⟨by rfl, ?_⟩) hHeld ?_ ?_
    rotate_left
    ·rintro w' ⟨s0, s1, s2⟩
     go_simp
     with_reducible rfl
    rotate_left
    ·simp only [Act.put, List.setIfInBounds_toArray, List.set_cons_zero, List.set_cons_succ, i64_w, i32_w]
     rfl
    refine take_ (i := 4) (N := some 132) (v := ?_) (a' := ?_) #[tt_,tt_,tt_,tt_,tt_,tt_,ff_,ff_,ff_,ff_] rfl rfl (by kernel_rfl) (fun _ _ _ h => h) (Or.inl ⟨by rfl, ?_⟩) hHeld ?_ ?_
    rotate_left
    ·rintro w' ⟨s0, s1, s2⟩
     go_simp
     with_reducible rfl
    rotate_left
    ·simp only [Act.put, List.setIfInBounds_toArray, List.set_cons_zero, List.set_cons_succ, i64_w, i32_w]
     rfl
    refine pure_ (i := 6) (N := some 134) (v := ?_) (a' := ?_) #[tt_,tt_,tt_,tt_,tt_,tt_,tt_,ff_,ff_,ff_] rfl rfl (by kernel_rfl) (fun _ _ _ h => h) (Or.inl ⟨by rfl, ?_⟩) ?_ ?_
    rotate_left
    ·intro w'
     go_simp
     with_reducible rfl
    rotate_left
    ·simp only [Act.put, List.setIfInBounds_toArray, List.set_cons_zero, List.set_cons_succ, i64_w, i32_w]
     rfl
    refine take_ (i := 7) (N := some 135) (v := ?_) (a' := ?_) #[tt_,tt_,tt_,tt_,tt_,tt_,tt_,tt_,ff_,ff_] rfl rfl (by kernel_rfl) (fun _ _ _ h => h) (Or.inl ⟨by rfl, ?_⟩) hHeld ?_ ?_
    rotate_left
    ·rintro w' ⟨s0, s1, s2⟩
     go_simp
     with_reducible rfl
    rotate_left
    ·simp only [Act.put, List.setIfInBounds_toArray, List.set_cons_zero, List.set_cons_succ, i64_w, i32_w]
     rfl
    refine pure_ (i := 8) (N := some 136) (v := ?_) (a' := ?_) #[tt_,tt_,tt_,tt_,tt_,tt_,tt_,tt_,tt_,ff_] rfl rfl (by kernel_rfl) (fun _ _ _ h => h) (Or.inl ⟨by rfl, ?_⟩) ?_ ?_
    rotate_left
    ·intro w'
     go_simp
     with_reducible rfl
    rotate_left
    ·simp only [Act.put, List.setIfInBounds_toArray, List.set_cons_zero, List.set_cons_succ, i64_w, i32_w]
     rfl
    refine last_ (i := 9) (N := none) #[tt_,tt_,tt_,tt_,tt_,tt_,tt_,tt_,tt_,tt_] rfl rfl (by kernel_rfl) (by decide) (fun K hK => ?_)
    refine skip_ (w1 := ?_) (by rfl) rfl ?_ ?_
    rotate_left
    ·go_simp
     rfl
    refine hK.out _ _ ?_
    clear hK K
    refine done_ (by kernel_rfl) ?_
    clear hHeld
    have M61 := Aside0.mk (M4.putH M60.out GH.out i b)
    generalize w60.setCell ⟨gh, i, none⟩ (.int .u32 (b : Int)) = w61 at *
    clear z1 zf M60 XB60
    have hll : i < ls.length := by rw [IVI.out.l1]; exact HLT.out
    have hhl : i < hs.length := by rw [IVI.out.l2]; exact HLT.out
    have FL : Aside0 (gt ls i = a) := ⟨(IVI.out.same i (Nat.le_refl _)).1.trans HEA.out⟩
    have FH : Aside0 (gt (hs.set i b) i = b) := ⟨gt_set_i hhl⟩
    have GL2 : Aside0 (∀ j, j ≠ i → gt ls j = gt ls j) := ⟨fun _ _ => rfl⟩
    have GH2 : Aside0 (∀ j, j ≠ i → gt (hs.set i b) j = gt hs j) := ⟨fun j hj => gt_set_ne hhl hj⟩
    have LL : Aside0 (ls.length = n) := ⟨IVI.out.l1⟩
    have LH : Aside0 ((hs.set i b).length = n) := ⟨by rw [List.length_set]; exact IVI.out.l2⟩
    obtain ⟨lv2, hd1, hmin⟩ := min2_run HDL.out (dv_z HA.out).2
    obtain ⟨mv2, hd2, hmax⟩ := max2_run HDM.out (dv_z HB.out).2
    have HMIN := Aside0.mk (hmin)
    have HMAX := Aside0.mk (hmax)
    have IVN := Aside0.mk (IV.step IVI.out (by rw [HEA.out]; exact HA.out) HSL.out HSM.out HALL.out HA.out HB.out HLE.out LL.out LH.out FL.out FH.out GL2.out GH2.out hd1 hd2)
    clear hll hhl hd1 hd2 hmin hmax
    go_upto_region 15 with (fail)
    have M70 := Aside0.mk (M4.drew M61.out)
    have zL := (R_cellN M70.out.rl i HLT.out).1
    have zH := (R_cellN M70.out.rh i HLT.out).1
    rw [FL.out] at zL
    rw [FH.out] at zH
    have ZL := Aside0.mk (zL)
    have ZH := Aside0.mk (zH)
    clear zL zH M61
    refine start_ (n := 18) (S := fun w' => w'.cell? ⟨g7, 2, none⟩ = some (.slice (some ⟨gl, 0, none⟩) n cl) ∧ w'.cell? ⟨g8, 2, none⟩ = some (.slice (some ⟨gh, 0, none⟩) n ch) ∧ w'.cell? ⟨gl, i, none⟩ = some (.int .u32 (a : Int)) ∧ w'.cell? ⟨gh, i, none⟩ = some (.int .u32 (b : Int))) (ds := []) #[ff_,ff_,ff_,ff_,ff_,ff_,ff_,ff_,ff_,ff_,ff_,ff_,ff_,ff_,ff_,ff_,ff_,ff_] (by kernel_rfl) rfl rfl ⟨(blk_cell M70.out.dl 2).trans rfl, (blk_cell M70.out.dh 2).trans rfl, ZL.out, ZH.out⟩ (fun hHeld => ?_)
    generalize w61.drew = w70 at *
    refine pure_ (i := 0) (N := some 137) (v := ?_) (a' := ?_) #[tt_,ff_,ff_,ff_,ff_,ff_,ff_,ff_,ff_,ff_,ff_,ff_,ff_,ff_,ff_,ff_,ff_,ff_] rfl rfl (by kernel_rfl) (fun _ _ _ h => h) (Or.inl ⟨by rfl, ?_⟩) ?_ ?_
    rotate_left
    ·intro w'
     go_simp
     with_reducible rfl
    rotate_left
    ·simp only [Act.put, List.setIfInBounds_toArray, List.set_cons_zero, List.set_cons_succ, i64_w, i32_w]
     rfl
    refine pure_ (i := 1) (N := some 138) (v := ?_) (a' := ?_) #[tt_,tt_,ff_,ff_,ff_,ff_,ff_,ff_,ff_,ff_,ff_,ff_,ff_,ff_,ff_,ff_,ff_,ff_] rfl rfl (by kernel_rfl) (fun _ _ _ h => h) (Or.inl ⟨by rfl, ?_⟩) ?_ ?_
    rotate_left
    ·intro w'
     go_simp
     with_reducible rfl
    rotate_left
    ·simp only [Act.put, List.setIfInBounds_toArray, List.set_cons_zero, List.set_cons_succ, i64_w, i32_w]
     rfl
    refine pure_ (i := 3) (N := some 140) (v := ?_) (a' := ?_) #[tt_,tt_,ff_,tt_,ff_,ff_,ff_,ff_,ff_,ff_,ff_,ff_,ff_,ff_,ff_,ff_,ff_,ff_] rfl rfl (by kernel_rfl) (fun _ _ _ h => h) (Or.inl ⟨by rfl, ?_⟩) ?_ ?_
    rotate_left
    ·intro w'
     go_simp
     with_reducible rfl
    rotate_left
    ·simp only [Act.put, List.setIfInBounds_toArray, List.set_cons_zero, List.set_cons_succ, i64_w, i32_w]
     rfl
    refine pure_ (i := 8) (N := some 145) (v := ?_) (a' := ?_) #[tt_,tt_,ff_,tt_,ff_,ff_,ff_,ff_,tt_,ff_,ff_,ff_,ff_,ff_,ff_,ff_,ff_,ff_] rfl rfl (by kernel_rfl) (fun _ _ _ h => h) (Or.inl ⟨by rfl, ?_⟩) ?_ ?_
    rotate_left
    ·intro w'
     go_simp
     with_reducible rfl
    rotate_left
    ·simp only [Act.put, List.setIfInBounds_toArray, List.set_cons_zero, List.set_cons_succ, i64_w, i32_w]
     rfl
    refine pure_ (i := 9) (N := some 146) (v := ?_) (a' := ?_) #[tt_,tt_,ff_,tt_,ff_,ff_,ff_,ff_,tt_,tt_,ff_,ff_,ff_,ff_,ff_,ff_,ff_,ff_] rfl rfl (by kernel_rfl) (fun _ _ _ h => h) (Or.inl ⟨by rfl, ?_⟩) ?_ ?_
    rotate_left
    ·intro w'
     go_simp
     with_reducible rfl
    rotate_left
    ·simp only [Act.put, List.setIfInBounds_toArray, List.set_cons_zero, List.set_cons_succ, i64_w, i32_w]
     rfl
    refine pure_ (i := 11) (N := some 148) (v := ?_) (a' := ?_) #[tt_,tt_,ff_,tt_,ff_,ff_,ff_,ff_,tt_,tt_,ff_,tt_,ff_,ff_,ff_,ff_,ff_,ff_] rfl rfl (by kernel_rfl) (fun _ _ _ h => h) (Or.inl ⟨by rfl, ?_⟩) ?_ ?_
    rotate_left
    ·intro w'
     go_simp
     with_reducible rfl
    rotate_left
    ·simp only [Act.put, List.setIfInBounds_toArray, List.set_cons_zero, List.set_cons_succ, i64_w, i32_w]
     rfl
    refine take_ (i := 2) (N := some 139) (v := ?_) (a' := ?_) #[tt_,tt_,tt_,tt_,ff_,ff_,ff_,ff_,tt_,tt_,ff_,tt_,ff_,ff_,ff_,ff_,ff_,ff_] rfl rfl (by kernel_rfl) (fun _ _ _ h => h) (Or.inl ⟨by rfl, ?_⟩) hHeld ?_ ?_
    rotate_left
    ·rintro w' ⟨s0, s1, s2, s3⟩
     go_simp
     with_reducible rfl
    rotate_left
    ·simp only [Act.put, List.setIfInBounds_toArray, List.set_cons_zero, List.set_cons_succ, i64_w, i32_w]
     rfl
    refine pure_ (i := 4) (N := some 141) (v := ?_) (a' := ?_) #[tt_,tt_,tt_,tt_,tt_,ff_,ff_,ff_,tt_,tt_,ff_,tt_,ff_,ff_,ff_,ff_,ff_,ff_] rfl rfl (by kernel_rfl) (fun _ _ _ h => h) (Or.inl ⟨by rfl, ?_⟩) ?_ ?_
    rotate_left
    ·intro w'
     go_simp
     with_reducible rfl
    rotate_left
    ·simp only [Act.put, List.setIfInBounds_toArray, List.set_cons_zero, List.set_cons_succ, i64_w, i32_w]
     rfl
    refine take_ (i := 5) (N := some 142) (v := ?_) (a' := ?_) #[tt_,tt_,tt_,tt_,tt_,tt_,ff_,ff_,tt_,tt_,ff_,tt_,ff_,ff_,ff_,ff_,ff_,ff_] rfl rfl (by kernel_rfl) (fun _ _ _ h => h) (Or.inl ⟨by rfl, ?_⟩) hHeld ?_ ?_
    rotate_left
    ·rintro w' ⟨s0, s1, s2, s3⟩
     go_simp
     with_reducible rfl
    rotate_left
    ·simp only [Act.put, List.setIfInBounds_toArray, List.set_cons_zero, List.set_cons_succ, i64_w, i32_w]
     rfl
    refine take_ (i := 10) (N := some 147) (v := ?_) (a' := ?_) #[tt_,tt_,tt_,tt_,tt_,tt_,ff_,ff_,tt_,tt_,tt_,tt_,ff_,ff_,ff_,ff_,ff_,ff_] rfl rfl (by kernel_rfl) (fun _ _ _ h => h) (Or.inl ⟨by rfl, ?_⟩) hHeld ?_ ?_
    rotate_left
    ·rintro w' ⟨s0, s1, s2, s3⟩
     go_simp
     with_reducible rfl
    rotate_left
    ·simp only [Act.put, List.setIfInBounds_toArray, List.set_cons_zero, List.set_cons_succ, i64_w, i32_w]
     rfl
    refine pure_ (i := 12) (N := some 149) (v := ?_) (a' := ?_) #[tt_,tt_,tt_,tt_,tt_,tt_,ff_,ff_,tt_,tt_,tt_,tt_,tt_,ff_,ff_,ff_,ff_,ff_] rfl rfl (by kernel_rfl) (fun _ _ _ h => h) (Or.inl ⟨by rfl, ?_⟩) ?_ ?_
    rotate_left
    ·intro w'
     go_simp
     with_reducible rfl
    rotate_left
    ·simp only [Act.put, List.setIfInBounds_toArray, List.set_cons_zero, List.set_cons_succ, i64_w, i32_w]
     rfl
    refine take_ (i := 13) (N := some 150) (v := ?_) (a' := ?_) #[tt_,tt_,tt_,tt_,tt_,tt_,ff_,ff_,tt_,tt_,tt_,tt_,tt_,tt_,ff_,ff_,ff_,ff_] rfl rfl (by kernel_rfl) (fun _ _ _ h => h) (Or.inl ⟨by rfl, ?_⟩) hHeld ?_ ?_
    rotate_left
    ·rintro w' ⟨s0, s1, s2, s3⟩
     go_simp
     with_reducible rfl
    rotate_left
    ·simp only [Act.put, List.setIfInBounds_toArray, List.set_cons_zero, List.set_cons_succ, i64_w, i32_w]
     rfl
    refine one_ (i := 6) (N := some 143) #[tt_,tt_,tt_,tt_,tt_,tt_,tt_,ff_,tt_,tt_,tt_,tt_,tt_,tt_,ff_,ff_,ff_,ff_] rfl rfl (by kernel_rfl) (by decide) (fun K hK => ?_)
    refine goes_ Try.func28 (by kernel_rfl) rfl #[.int .u32 (a : Int)] (by rfl) rfl rfl (by (try simp only [List.map_toArray, List.map_cons, List.map_nil]); rfl) ?_
    with_reducible refine (value_calls a za HA.out _).mono ?_
    rintro e w_ ⟨rfl, hw_⟩
    refine ⟨_, rfl, ?_⟩
    have hw2_ := hw_.symm
    clear hw_
    subst hw2_
    refine hK.out _ _ ⟨(blk_cell M70.out.dl 2).trans rfl, (blk_cell M70.out.dh 2).trans rfl, ZL.out, ZH.out⟩ (fun hHeld => ?_)
    clear hK K
    refine norm_ (a' := ?_) ?_ ?_
    rotate_left
    ·show Act.put _ (some 143) _ = _
     simp only [Act.put, List.setIfInBounds_toArray, List.set_cons_zero, List.set_cons_succ, i64_w, i32_w]
     rfl
    refine join_ (σ := Unit) 1 #[tt_,tt_,tt_,tt_,tt_,tt_,tt_,tt_,tt_,tt_,tt_,tt_,tt_,tt_,tt_,tt_,tt_,ff_] (fun _ => [(144, .float .f64 lv2), (151, .float .f64 (dv b)), (152, .float .f64 mv2), (9, .float .f64 lv2)]) (fun _ w' => w' = w70) ?_ ?_
    rotate_left
    ·intro hCont
     refine two_ (i := 7) (j := 14) (Ni := some 144) (Nj := some 151) #[tt_,tt_,tt_,tt_,tt_,tt_,tt_,tt_,tt_,tt_,tt_,tt_,tt_,tt_,ff_,ff_,ff_,ff_] #[tt_,tt_,tt_,tt_,tt_,tt_,tt_,ff_,tt_,tt_,tt_,tt_,tt_,tt_,tt_,ff_,ff_,ff_] rfl rfl rfl rfl (by kernel_rfl) (by decide) (by decide) (fun K hK => ?_) (fun K hK => ?_)
     ·skip
      refine value_ (w1 := w70) (v := .float .f64 lv2) (by rfl) rfl (min_exec rfl (by rfl) (by rfl) HMIN.out _) ?_
      refine hK.out _ _ ⟨(blk_cell M70.out.dl 2).trans rfl, (blk_cell M70.out.dh 2).trans rfl, ZL.out, ZH.out⟩ (fun hHeld => ?_)
      clear hK K
      refine norm_ (a' := ?_) ?_ ?_
      rotate_left
      ·show Act.put _ (some 144) _ = _
       simp only [Act.put, List.setIfInBounds_toArray, List.set_cons_zero, List.set_cons_succ, i64_w, i32_w]
       rfl
      refine one_ (i := 14) (N := some 151) #[tt_,tt_,tt_,tt_,tt_,tt_,tt_,tt_,tt_,tt_,tt_,tt_,tt_,tt_,tt_,ff_,ff_,ff_] rfl rfl (by kernel_rfl) (by decide) (fun K hK => ?_)
      refine goes_ Try.func28 (by kernel_rfl) rfl #[.int .u32 (b : Int)] (by rfl) rfl rfl (by (try simp only [List.map_toArray, List.map_cons, List.map_nil]); rfl) ?_
      with_reducible refine (value_calls b zb HB.out _).mono ?_
      rintro e w_ ⟨rfl, hw_⟩
      refine ⟨_, rfl, ?_⟩
      have hw2_ := hw_.symm
      clear hw_
      subst hw2_
      refine hK.out _ _ ⟨(blk_cell M70.out.dl 2).trans rfl, (blk_cell M70.out.dh 2).trans rfl, ZL.out, ZH.out⟩ (fun hHeld => ?_)
      clear hK K
      refine norm_ (a' := ?_) ?_ ?_
      rotate_left
      ·show Act.put _ (some 151) _ = _
       simp only [Act.put, List.setIfInBounds_toArray, List.set_cons_zero, List.set_cons_succ, i64_w, i32_w]
       rfl
      refine pure_ (i := 16) (N := some 9) (v := ?_) (a' := ?_) #[tt_,tt_,tt_,tt_,tt_,tt_,tt_,tt_,tt_,tt_,tt_,tt_,tt_,tt_,tt_,ff_,tt_,ff_] rfl rfl (by kernel_rfl) (fun _ _ _ h => h) (Or.inl ⟨by rfl, ?_⟩) ?_ ?_
      rotate_left
      ·intro w'
       go_simp
       with_reducible rfl
      rotate_left
      ·simp only [Act.put, List.setIfInBounds_toArray, List.set_cons_zero, List.set_cons_succ, i64_w, i32_w]
       rfl
      refine one_ (i := 15) (N := some 152) #[tt_,tt_,tt_,tt_,tt_,tt_,tt_,tt_,tt_,tt_,tt_,tt_,tt_,tt_,tt_,tt_,tt_,ff_] rfl rfl (by kernel_rfl) (by decide) (fun K hK => ?_)
      refine value_ (w1 := w70) (v := .float .f64 mv2) (by rfl) rfl (max_exec rfl (by rfl) (by rfl) HMAX.out _) ?_
      refine hK.out _ _ ⟨(blk_cell M70.out.dl 2).trans rfl, (blk_cell M70.out.dh 2).trans rfl, ZL.out, ZH.out⟩ (fun hHeld => ?_)
      clear hK K
      refine norm_ (a' := ?_) ?_ ?_
      rotate_left
      ·show Act.put _ (some 152) _ = _
       simp only [Act.put, List.setIfInBounds_toArray, List.set_cons_zero, List.set_cons_succ, i64_w, i32_w]
       rfl
      exact norm_ (by rfl) (hCont () _ rfl)
     ·skip
      refine goes_ Try.func28 (by kernel_rfl) rfl #[.int .u32 (b : Int)] (by rfl) rfl rfl (by (try simp only [List.map_toArray, List.map_cons, List.map_nil]); rfl) ?_
      with_reducible refine (value_calls b zb HB.out _).mono ?_
      rintro e w_ ⟨rfl, hw_⟩
      refine ⟨_, rfl, ?_⟩
      have hw2_ := hw_.symm
      clear hw_
      subst hw2_
      refine hK.out _ _ ⟨(blk_cell M70.out.dl 2).trans rfl, (blk_cell M70.out.dh 2).trans rfl, ZL.out, ZH.out⟩ (fun hHeld => ?_)
      clear hK K
      refine norm_ (a' := ?_) ?_ ?_
      rotate_left
      ·show Act.put _ (some 151) _ = _
       simp only [Act.put, List.setIfInBounds_toArray, List.set_cons_zero, List.set_cons_succ, i64_w, i32_w]
       rfl
      refine two_ (i := 7) (j := 15) (Ni := some 144) (Nj := some 152) #[tt_,tt_,tt_,tt_,tt_,tt_,tt_,tt_,tt_,tt_,tt_,tt_,tt_,tt_,tt_,ff_,ff_,ff_] #[tt_,tt_,tt_,tt_,tt_,tt_,tt_,ff_,tt_,tt_,tt_,tt_,tt_,tt_,tt_,tt_,ff_,ff_] rfl rfl rfl rfl (by kernel_rfl) (by decide) (by decide) (fun K hK => ?_) (fun K hK => ?_)
      ·skip
       refine value_ (w1 := w70) (v := .float .f64 lv2) (by rfl) rfl (min_exec rfl (by rfl) (by rfl) HMIN.out _) ?_
       refine hK.out _ _ ⟨(blk_cell M70.out.dl 2).trans rfl, (blk_cell M70.out.dh 2).trans rfl, ZL.out, ZH.out⟩ (fun hHeld => ?_)
       clear hK K
       refine norm_ (a' := ?_) ?_ ?_
       rotate_left
       ·show Act.put _ (some 144) _ = _
        simp only [Act.put, List.setIfInBounds_toArray, List.set_cons_zero, List.set_cons_succ, i64_w, i32_w]
        rfl
       refine pure_ (i := 16) (N := some 9) (v := ?_) (a' := ?_) #[tt_,tt_,tt_,tt_,tt_,tt_,tt_,tt_,tt_,tt_,tt_,tt_,tt_,tt_,tt_,ff_,tt_,ff_] rfl rfl (by kernel_rfl) (fun _ _ _ h => h) (Or.inl ⟨by rfl, ?_⟩) ?_ ?_
       rotate_left
       ·intro w'
        go_simp
        with_reducible rfl
       rotate_left
       ·simp only [Act.put, List.setIfInBounds_toArray, List.set_cons_zero, List.set_cons_succ, i64_w, i32_w]
        rfl
       refine one_ (i := 15) (N := some 152) #[tt_,tt_,tt_,tt_,tt_,tt_,tt_,tt_,tt_,tt_,tt_,tt_,tt_,tt_,tt_,tt_,tt_,ff_] rfl rfl (by kernel_rfl) (by decide) (fun K hK => ?_)
       refine value_ (w1 := w70) (v := .float .f64 mv2) (by rfl) rfl (max_exec rfl (by rfl) (by rfl) HMAX.out _) ?_
       refine hK.out _ _ ⟨(blk_cell M70.out.dl 2).trans rfl, (blk_cell M70.out.dh 2).trans rfl, ZL.out, ZH.out⟩ (fun hHeld => ?_)
       clear hK K
       refine norm_ (a' := ?_) ?_ ?_
       rotate_left
       ·show Act.put _ (some 152) _ = _
        simp only [Act.put, List.setIfInBounds_toArray, List.set_cons_zero, List.set_cons_succ, i64_w, i32_w]
        rfl
       exact norm_ (by rfl) (hCont () _ rfl)
      ·skip
       refine value_ (w1 := w70) (v := .float .f64 mv2) (by rfl) rfl (max_exec rfl (by rfl) (by rfl) HMAX.out _) ?_
       refine hK.out _ _ ⟨(blk_cell M70.out.dl 2).trans rfl, (blk_cell M70.out.dh 2).trans rfl, ZL.out, ZH.out⟩ (fun hHeld => ?_)
       clear hK K
       refine norm_ (a' := ?_) ?_ ?_
       rotate_left
       ·show Act.put _ (some 152) _ = _
        simp only [Act.put, List.setIfInBounds_toArray, List.set_cons_zero, List.set_cons_succ, i64_w, i32_w]
        rfl
       refine one_ (i := 7) (N := some 144) #[tt_,tt_,tt_,tt_,tt_,tt_,tt_,tt_,tt_,tt_,tt_,tt_,tt_,tt_,tt_,tt_,ff_,ff_] rfl rfl (by kernel_rfl) (by decide) (fun K hK => ?_)
       refine value_ (w1 := w70) (v := .float .f64 lv2) (by rfl) rfl (min_exec rfl (by rfl) (by rfl) HMIN.out _) ?_
       refine hK.out _ _ ⟨(blk_cell M70.out.dl 2).trans rfl, (blk_cell M70.out.dh 2).trans rfl, ZL.out, ZH.out⟩ (fun hHeld => ?_)
       clear hK K
       refine norm_ (a' := ?_) ?_ ?_
       rotate_left
       ·show Act.put _ (some 144) _ = _
        simp only [Act.put, List.setIfInBounds_toArray, List.set_cons_zero, List.set_cons_succ, i64_w, i32_w]
        rfl
       refine pure_ (i := 16) (N := some 9) (v := ?_) (a' := ?_) #[tt_,tt_,tt_,tt_,tt_,tt_,tt_,tt_,tt_,tt_,tt_,tt_,tt_,tt_,tt_,tt_,tt_,ff_] rfl rfl (by kernel_rfl) (fun _ _ _ h => h) (Or.inl ⟨by rfl, ?_⟩) ?_ ?_
       rotate_left
       ·intro w'
        go_simp
        with_reducible rfl
       rotate_left
       ·simp only [Act.put, List.setIfInBounds_toArray, List.set_cons_zero, List.set_cons_succ, i64_w, i32_w]
        rfl
       exact norm_ (by rfl) (hCont () _ rfl)
    rintro ⟨⟩ wz_ hwz_
    have hwz2_ := hwz_.symm
    clear hwz_
    subst hwz2_
    have hHeld : (w70.cell? ⟨g7, 2, none⟩ = some (.slice (some ⟨gl, 0, none⟩) n cl)) ∧ (w70.cell? ⟨g8, 2, none⟩ = some (.slice (some ⟨gh, 0, none⟩) n ch)) ∧ (w70.cell? ⟨gl, i, none⟩ = some (.int .u32 (a : Int))) ∧ (w70.cell? ⟨gh, i, none⟩ = some (.int .u32 (b : Int))) := ⟨(blk_cell M70.out.dl 2).trans rfl, (blk_cell M70.out.dh 2).trans rfl, ZL.out, ZH.out⟩
    refine norm_ (a' := ?_) ?_ ?_
    rotate_left
    ·simp only [YtodlgdpkadkjjaaW.PrintLast.putAll, Act.put, List.setIfInBounds_toArray, List.set_cons_zero, List.set_cons_succ]
     rfl
    refine pure_ (i := 17) (N := some 10) (v := ?_) (a' := ?_) #[tt_,tt_,tt_,tt_,tt_,tt_,tt_,tt_,tt_,tt_,tt_,tt_,tt_,tt_,tt_,tt_,tt_,tt_] rfl rfl (by kernel_rfl) (fun _ _ _ h => h) (Or.inl ⟨by rfl, ?_⟩) ?_ ?_
    rotate_left
    ·intro w'
     go_simp
     with_reducible rfl
    rotate_left
    ·simp only [Act.put, List.setIfInBounds_toArray, List.set_cons_zero, List.set_cons_succ, i64_w, i32_w]
     rfl
    refine done_ (by kernel_rfl) ?_
    clear hHeld
    go_wp2
    go_roundw
    case measure => simp [intOf]; have := HLT.out; omega
    case rel => exact ⟨i + 1, lv2, mv2, ls, (hs.set i b), HLT.out, rfl, rfl, by go_num, M70, IVN⟩
  ·obtain rfl : n = i := by omega
   have c1 : decide ((n : Int) < (n : Int)) = false := decide_eq_false (by omega)
   have p2 := (blk_cell (blk_below DX_20.out MI.out.b) 2).trans rfl
   obtain ⟨z0, hz0⟩ := IVI.out.fin HPN.out
   obtain ⟨sl, sm, lz, mz, h1, h2, h3, h4, h5⟩ := IVI.out.main z0 hz0
   have HSL := Aside0.mk h1
   have HSM := Aside0.mk h2
   have HDL := Aside0.mk h3
   have HDM := Aside0.mk h4
   have HPP : Aside0 (∀ k, k < H * W → P3 lz mz (gt ls k) (gt hs k)) := ⟨fun k hk => h5 k (by rw [Nat.mul_comm, HNN.out] at hk; exact hk)⟩
   have HLO : Aside0 ((Pl.mk W H ls).ok) := ⟨⟨HP.out.1, HP.out.2.1, HP.out.2.2.1, HP.out.2.2.2.1, HP.out.2.2.2.2.1, IVI.out.l1.trans HNN.out.symm, IVI.out.b1⟩⟩
   have HHO : Aside0 ((Pl.mk W H hs).ok) := ⟨⟨HP.out.1, HP.out.2.1, HP.out.2.2.1, HP.out.2.2.2.1, HP.out.2.2.2.2.1, IVI.out.l2.trans HNN.out.symm, IVI.out.b2⟩⟩
   have HN1 : Aside0 ((redS W H ls).length = (redS W H hs).length) := ⟨by rw [redS_length, redS_length]⟩
   have HN2 : Aside0 (0 < (redS W H ls).length) := ⟨by rw [redS_length]; exact Nat.mul_pos (hf_pos HWH.out.1) (hf_pos HWH.out.2.1)⟩
   have HR1 : Aside0 (∀ k, k < (redS W H ls).length → P3 lz mz (gt (redS W H ls) k) (gt (redS W H hs) k)) := ⟨fun k hk => resZ_ris_all reduceS reduce_good reduce_pos HSL.out HSM.out (lt5 (hf_le HP.out.2.2.1 (by decide))) (lt5 (hf_le HP.out.2.2.2.1 (by decide))) HWH.out.1 HWH.out.2.1 HPP.out k (by rw [redS_length, Nat.mul_comm] at hk; exact hk)⟩
   have HWH2 : Aside0 (2 ≤ W2 ∧ 2 ≤ H2) := ⟨by rw [← HW2.out, ← HH2.out]; have := HWH.out; exact ⟨Nat.mul_le_mul_left 2 this.1, Nat.mul_le_mul_left 2 this.2.1⟩⟩
   have v5 : IntKind.i64.wrap (2 * (W : Int)) = (W2 : Int) := by simp only [i64_w]; exact m1
   have v6 : IntKind.i64.wrap (2 * (H : Int)) = (H2 : Int) := by simp only [i64_w]; exact m2
   have hw0 : wrap64 0 = 0 := w64 (by decide) (by decide)
   clear hz0 h1 h2 h3 h4 h5
   go_upto_region 16 with (fail)
   have M80 := Aside0.mk (M4.drew MI.out)
   clear p2
   refine start_ (n := 8) (S := fun w' => w'.cell? ⟨gX, 0, none⟩ = some (.int .i64 (W : Int)) ∧ w'.cell? ⟨gX, 1, none⟩ = some (.int .i64 (H : Int))) (ds := []) #[ff_,ff_,ff_,ff_,ff_,ff_,ff_,ff_] (by kernel_rfl) rfl rfl ⟨(blk_cell (blk_below DX_20.out M80.out.b) 0).trans rfl, (blk_cell (blk_below DX_20.out M80.out.b) 1).trans rfl⟩ (fun hHeld => ?_)
   generalize wr.drew = w80 at *
   refine pure_ (i := 0) (N := some 153) (v := ?_) (a' := ?_) #[tt_,ff_,ff_,ff_,ff_,ff_,ff_,ff_] rfl rfl (by kernel_rfl) (fun _ _ _ h => h) (Or.inl ⟨by rfl, ?_⟩) ?_ ?_
   rotate_left
   ·intro w'
    go_simp
    with_reducible rfl
   rotate_left
   ·simp only [Act.put, List.setIfInBounds_toArray, List.set_cons_zero, List.set_cons_succ, i64_w, i32_w]
    rfl
   refine pure_ (i := 3) (N := some 156) (v := ?_) (a' := ?_) #[tt_,ff_,ff_,tt_,ff_,ff_,ff_,ff_] rfl rfl (by kernel_rfl) (fun _ _ _ h => h) (Or.inl ⟨by rfl, ?_⟩) ?_ ?_
   rotate_left
   ·intro w'
    go_simp
    with_reducible rfl
   rotate_left
   ·simp only [Act.put, List.setIfInBounds_toArray, List.set_cons_zero, List.set_cons_succ, i64_w, i32_w]
    rfl
   refine take_ (i := 1) (N := some 154) (v := ?_) (a' := ?_) #[tt_,tt_,ff_,tt_,ff_,ff_,ff_,ff_] rfl rfl (by kernel_rfl) (fun _ _ _ h => h) (Or.inl ⟨by rfl, ?_⟩) hHeld ?_ ?_
   rotate_left
   ·rintro w' ⟨s0, s1⟩
    go_simp
    with_reducible rfl
   rotate_left
   ·simp only [Act.put, List.setIfInBounds_toArray, List.set_cons_zero, List.set_cons_succ, i64_w, i32_w]
    rfl
   refine pure_ (i := 2) (N := some 155) (v := ?_) (a' := ?_) #[tt_,tt_,tt_,tt_,ff_,ff_,ff_,ff_] rfl rfl (by kernel_rfl) (fun _ _ _ h => h) (Or.inl ⟨by rfl, ?_⟩) ?_ ?_
   rotate_left
   ·intro w'
    go_simp
    with_reducible rfl
   rotate_left
   ·simp only [Act.put, List.setIfInBounds_toArray, List.set_cons_zero, List.set_cons_succ, i64_w, i32_w]
    rfl
   refine pure_ (i := 6) (N := some 12) (v := ?_) (a' := ?_) #[tt_,tt_,tt_,tt_,ff_,ff_,tt_,ff_] rfl rfl (by kernel_rfl) (fun _ _ _ h => h) (Or.inl ⟨by rfl, ?_⟩) ?_ ?_
   rotate_left
   ·intro w'
    go_simp
    with_reducible rfl
   rotate_left
   ·simp only [Act.put, List.setIfInBounds_toArray, List.set_cons_zero, List.set_cons_succ, i64_w, i32_w]
    rfl
   refine take_ (i := 4) (N := some 157) (v := ?_) (a' := ?_) #[tt_,tt_,tt_,tt_,tt_,ff_,tt_,ff_] rfl rfl (by kernel_rfl) (fun _ _ _ h => h) (Or.inl ⟨by rfl, ?_⟩) hHeld ?_ ?_
   rotate_left
   ·rintro w' ⟨s0, s1⟩
    go_simp
    with_reducible rfl
   rotate_left
   ·simp only [Act.put, List.setIfInBounds_toArray, List.set_cons_zero, List.set_cons_succ, i64_w, i32_w]
    rfl
   refine pure_ (i := 5) (N := some 158) (v := ?_) (a' := ?_) #[tt_,tt_,tt_,tt_,tt_,tt_,tt_,ff_] rfl rfl (by kernel_rfl) (fun _ _ _ h => h) (Or.inl ⟨by rfl, ?_⟩) ?_ ?_
   rotate_left
   ·intro w'
    go_simp
    with_reducible rfl
   rotate_left
   ·simp only [Act.put, List.setIfInBounds_toArray, List.set_cons_zero, List.set_cons_succ, i64_w, i32_w]
    rfl
   refine pure_ (i := 7) (N := some 13) (v := ?_) (a' := ?_) #[tt_,tt_,tt_,tt_,tt_,tt_,tt_,tt_] rfl rfl (by kernel_rfl) (fun _ _ _ h => h) (Or.inl ⟨by rfl, ?_⟩) ?_ ?_
   rotate_left
   ·intro w'
    go_simp
    with_reducible rfl
   rotate_left
   ·simp only [Act.put, List.setIfInBounds_toArray, List.set_cons_zero, List.set_cons_succ, i64_w, i32_w]
    rfl
   refine done_ (by kernel_rfl) ?_
   have B_80 := Aside0.mk (below_step B_20.out M80.out.b)
   have DL_80 := Aside0.mk M80.out.dl
   have DH_80 := Aside0.mk M80.out.dh
   have Ll_80 := Aside0.mk (PL.ofS M80.out.rl)
   have Lh_80 := Aside0.mk (PL.ofS M80.out.rh)
   clear hHeld M80 MI hi hlt
   cases odd
   ·skip
    have HSZ : Aside0 (0 < W2 ∧ 0 < H2 ∧ W2 ≤ 1024 ∧ H2 ≤ 1024 ∧ W2 * H2 ≤ 65536) := ⟨size_of HWH.out HW2.out HH2.out (Nat.lt_of_lt_of_le (by decide) HWH2.out.1) (Nat.lt_of_lt_of_le (by decide) HWH2.out.2) (Nat.le_refl _) (Nat.le_refl _)⟩
    have HWW : Aside0 (hf W2 = W) := ⟨hf_t HW2.out⟩
    have HHH : Aside0 (hf H2 = H) := ⟨hf_t HH2.out⟩
    have HN3 : Aside0 ((expS W H W2 H2 ls).length = (expS W H W2 H2 hs).length) := ⟨by rw [expS_length, expS_length]⟩
    have HN4 : Aside0 (0 < (expS W H W2 H2 ls).length) := ⟨by rw [expS_length]; exact Nat.mul_pos HSZ.out.1 HSZ.out.2.1⟩
    have HR2 : Aside0 (∀ k, k < (expS W H W2 H2 ls).length → P3 lz mz (gt (expS W H W2 H2 ls) k) (gt (expS W H W2 H2 hs) k)) := ⟨fun k hk => resZ_ris_all expandS expand_good expand_pos HSL.out HSM.out (lt5 HSZ.out.2.2.1) (lt5 HSZ.out.2.2.2.1) HWH.out.1 HWH.out.2.1 HPP.out k (by rw [expS_length, Nat.mul_comm] at hk; exact hk)⟩
    go_wp2_with (first | (go_at_call 29; have hkey := B_89; clear hkey; refine (risesL HDL.out HDM.out Lc_89.out Ld_89.out HN3.out HN4.out HR2.out).mono ?_; rintro e w90 ⟨rfl, hb⟩; have B_90 := Aside0.mk (below_step B_89.out hb); have DL_90 := Aside0.mk (blk_below DL_89.out hb); have DH_90 := Aside0.mk (blk_below DH_89.out hb); have DA_90 := Aside0.mk (blk_below DA_89.out hb); have DB_90 := Aside0.mk (blk_below DB_89.out hb); have DC_90 := Aside0.mk (blk_below DC_89.out hb); have DE_90 := Aside0.mk (blk_below DE_89.out hb); have Ll_90 := Aside0.mk (Ll_89.out.below hb); have Lh_90 := Aside0.mk (Lh_89.out.below hb); have La_90 := Aside0.mk (La_89.out.below hb); have Lb_90 := Aside0.mk (Lb_89.out.below hb); have Lc_90 := Aside0.mk (Lc_89.out.below hb); have Ld_90 := Aside0.mk (Ld_89.out.below hb); clear DL_89 DH_89 DA_89 DB_89 DC_89 DE_89 Ll_89 Lh_89 La_89 Lb_89 Lc_89 Ld_89; clear hb) | ((with_reducible refine gate_dst (N := 209) rfl ?_); refine loadP_g rfl ?hw gE _ _ _ rfl DE_89.out ?_; (case hw => rfl)) | ((with_reducible refine gate_dst (N := 208) rfl ?_); refine loadP_g rfl ?hw gC _ _ _ rfl DC_89.out ?_; (case hw => rfl)) | (go_at_call 29; have hkey := B_88; clear hkey; refine (risesL HDL.out HDM.out La_88.out Lb_88.out HN1.out HN2.out HR1.out).mono ?_; rintro e w89 ⟨rfl, hb⟩; have B_89 := Aside0.mk (below_step B_88.out hb); have DL_89 := Aside0.mk (blk_below DL_88.out hb); have DH_89 := Aside0.mk (blk_below DH_88.out hb); have DA_89 := Aside0.mk (blk_below DA_88.out hb); have DB_89 := Aside0.mk (blk_below DB_88.out hb); have DC_89 := Aside0.mk (blk_below DC_88.out hb); have DE_89 := Aside0.mk (blk_below DE_88.out hb); have Ll_89 := Aside0.mk (Ll_88.out.below hb); have Lh_89 := Aside0.mk (Lh_88.out.below hb); have La_89 := Aside0.mk (La_88.out.below hb); have Lb_89 := Aside0.mk (Lb_88.out.below hb); have Lc_89 := Aside0.mk (Lc_88.out.below hb); have Ld_89 := Aside0.mk (Ld_88.out.below hb); clear DL_88 DH_88 DA_88 DB_88 DC_88 DE_88 Ll_88 Lh_88 La_88 Lb_88 Lc_88 Ld_88; clear hb) | ((with_reducible refine gate_dst (N := 202) rfl ?_); refine loadP_g rfl ?hw gB _ _ _ rfl DB_88.out ?_; (case hw => rfl)) | ((with_reducible refine gate_dst (N := 201) rfl ?_); refine loadP_g rfl ?hw gA _ _ _ rfl DA_88.out ?_; (case hw => rfl)) | ((with_reducible refine gate_store (p := 20) rfl ?_); refine storeP_event rfl rfl rfl gE (W2 : Int) (H2 : Int) Ad nd cd_ _ _ _ rfl rfl ZE.out ?_; intro w88 hm_ hst_ hbl_; have BL87_2 := Aside0.mk (BL87_1.out.trans (hbl_ _ GGE.out)); have ZE_ := Aside0.mk hm_; have B_88 := Aside0.mk (below_step B_87.out BL87_2.out); have DL_88 := Aside0.mk (blk_below DL_87.out BL87_2.out); have DH_88 := Aside0.mk (blk_below DH_87.out BL87_2.out); have DA_88 := Aside0.mk (blk_below DA_87.out BL87_2.out); have DB_88 := Aside0.mk (blk_below DB_87.out BL87_2.out); have DC_88 := Aside0.mk (blk_below DC_87.out BL87_2.out); have Ll_88 := Aside0.mk (Ll_87.out.below BL87_2.out); have Lh_88 := Aside0.mk (Lh_87.out.below BL87_2.out); have La_88 := Aside0.mk (La_87.out.below BL87_2.out); have Lb_88 := Aside0.mk (Lb_87.out.below BL87_2.out); have Lc_88 := Aside0.mk (Lc_87.out.below BL87_2.out); have Ld_88 := Aside0.mk (Ld_87.out.below BL87_2.out); clear DL_87 DH_87 DA_87 DB_87 DC_87 Ll_87 Lh_87 La_87 Lb_87 Lc_87 Ld_87; have DE_88 := Aside0.mk (ZE_.out); clear ZE_ ZE BL87_1 BL87_2; clear hm_ hst_ hbl_) | ((with_reducible refine gate_dst (N := 20) rfl ?_); refine box_event ?hg (N := 20) ?hd (cs := #[.int .i64 0, .int .i64 0, .slice none 0 0]) (t := 25) ?hr ?_; (case hd => rfl); (case hg => rfl); (case hr => first | (go_simp; done) | (go_simp; rfl)); intro gE hg_ w87_1 hm_ hb_; have BL87_1 := Aside0.mk (hb_); have ZE := Aside0.mk (hm_); have GGE := Aside0.mk (show w87.heap.size ≤ gE by rw [hg_]; exact Nat.le_refl _); clear hm_ hb_ hg_) | (go_at_call 20; have hkey := B_86; clear hkey; refine (ExpandL HHO.out Lh_86.out HSZ.out HWW.out HHH.out).mono ?_; rintro e w87 ⟨Ad, nd, cd_, rfl, hL, hb⟩; have B_87 := Aside0.mk (below_step B_86.out hb); have DL_87 := Aside0.mk (blk_below DL_86.out hb); have DH_87 := Aside0.mk (blk_below DH_86.out hb); have DA_87 := Aside0.mk (blk_below DA_86.out hb); have DB_87 := Aside0.mk (blk_below DB_86.out hb); have DC_87 := Aside0.mk (blk_below DC_86.out hb); have Ll_87 := Aside0.mk (Ll_86.out.below hb); have Lh_87 := Aside0.mk (Lh_86.out.below hb); have La_87 := Aside0.mk (La_86.out.below hb); have Lb_87 := Aside0.mk (Lb_86.out.below hb); have Lc_87 := Aside0.mk (Lc_86.out.below hb); clear DL_86 DH_86 DA_86 DB_86 DC_86 Ll_86 Lh_86 La_86 Lb_86 Lc_86; have Ld_87 := Aside0.mk (hL); clear hb hL) | ((with_reducible refine gate_dst (N := 182) rfl ?_); refine loadP_g rfl ?hw g8 _ _ _ rfl DH_86.out ?_; (case hw => rfl)) | ((with_reducible refine gate_store (p := 18) rfl ?_); refine storeP_event rfl rfl rfl gC (W2 : Int) (H2 : Int) Ac nc cc _ _ _ rfl rfl ZC.out ?_; intro w86 hm_ hst_ hbl_; have BL85_2 := Aside0.mk (BL85_1.out.trans (hbl_ _ GGC.out)); have ZC_ := Aside0.mk hm_; have B_86 := Aside0.mk (below_step B_85.out BL85_2.out); have DL_86 := Aside0.mk (blk_below DL_85.out BL85_2.out); have DH_86 := Aside0.mk (blk_below DH_85.out BL85_2.out); have DA_86 := Aside0.mk (blk_below DA_85.out BL85_2.out); have DB_86 := Aside0.mk (blk_below DB_85.out BL85_2.out); have Ll_86 := Aside0.mk (Ll_85.out.below BL85_2.out); have Lh_86 := Aside0.mk (Lh_85.out.below BL85_2.out); have La_86 := Aside0.mk (La_85.out.below BL85_2.out); have Lb_86 := Aside0.mk (Lb_85.out.below BL85_2.out); have Lc_86 := Aside0.mk (Lc_85.out.below BL85_2.out); clear DL_85 DH_85 DA_85 DB_85 Ll_85 Lh_85 La_85 Lb_85 Lc_85; have DC_86 := Aside0.mk (ZC_.out); clear ZC_ ZC BL85_1 BL85_2; clear hm_ hst_ hbl_) | ((with_reducible refine gate_dst (N := 18) rfl ?_); refine box_event ?hg (N := 18) ?hd (cs := #[.int .i64 0, .int .i64 0, .slice none 0 0]) (t := 25) ?hr ?_; (case hd => rfl); (case hg => rfl); (case hr => first | (go_simp; done) | (go_simp; rfl)); intro gC hg_ w85_1 hm_ hb_; have BL85_1 := Aside0.mk (hb_); have ZC := Aside0.mk (hm_); have GGC := Aside0.mk (show w85.heap.size ≤ gC by rw [hg_]; exact Nat.le_refl _); clear hm_ hb_ hg_) | (go_at_call 20; have hkey := B_84; clear hkey; refine (ExpandL HLO.out Ll_84.out HSZ.out HWW.out HHH.out).mono ?_; rintro e w85 ⟨Ac, nc, cc, rfl, hL, hb⟩; have B_85 := Aside0.mk (below_step B_84.out hb); have DL_85 := Aside0.mk (blk_below DL_84.out hb); have DH_85 := Aside0.mk (blk_below DH_84.out hb); have DA_85 := Aside0.mk (blk_below DA_84.out hb); have DB_85 := Aside0.mk (blk_below DB_84.out hb); have Ll_85 := Aside0.mk (Ll_84.out.below hb); have Lh_85 := Aside0.mk (Lh_84.out.below hb); have La_85 := Aside0.mk (La_84.out.below hb); have Lb_85 := Aside0.mk (Lb_84.out.below hb); clear DL_84 DH_84 DA_84 DB_84 Ll_84 Lh_84 La_84 Lb_84; have Lc_85 := Aside0.mk (hL); clear hb hL) | ((with_reducible refine gate_dst (N := 175) rfl ?_); refine loadP_g rfl ?hw g7 _ _ _ rfl DL_84.out ?_; (case hw => rfl)) | ((with_reducible refine gate_store (p := 16) rfl ?_); refine storeP_event rfl rfl rfl gB ((hf W : Nat) : Int) ((hf H : Nat) : Int) Ab nb cb _ _ _ rfl rfl ZB.out ?_; intro w84 hm_ hst_ hbl_; have BL83_2 := Aside0.mk (BL83_1.out.trans (hbl_ _ GGB.out)); have ZB_ := Aside0.mk hm_; have B_84 := Aside0.mk (below_step B_83.out BL83_2.out); have DL_84 := Aside0.mk (blk_below DL_83.out BL83_2.out); have DH_84 := Aside0.mk (blk_below DH_83.out BL83_2.out); have DA_84 := Aside0.mk (blk_below DA_83.out BL83_2.out); have Ll_84 := Aside0.mk (Ll_83.out.below BL83_2.out); have Lh_84 := Aside0.mk (Lh_83.out.below BL83_2.out); have La_84 := Aside0.mk (La_83.out.below BL83_2.out); have Lb_84 := Aside0.mk (Lb_83.out.below BL83_2.out); clear DL_83 DH_83 DA_83 Ll_83 Lh_83 La_83 Lb_83; have DB_84 := Aside0.mk (ZB_.out); clear ZB_ ZB BL83_1 BL83_2; clear hm_ hst_ hbl_) | ((with_reducible refine gate_dst (N := 16) rfl ?_); refine box_event ?hg (N := 16) ?hd (cs := #[.int .i64 0, .int .i64 0, .slice none 0 0]) (t := 25) ?hr ?_; (case hd => rfl); (case hg => rfl); (case hr => first | (go_simp; done) | (go_simp; rfl)); intro gB hg_ w83_1 hm_ hb_; have BL83_1 := Aside0.mk (hb_); have ZB := Aside0.mk (hm_); have GGB := Aside0.mk (show w83.heap.size ≤ gB by rw [hg_]; exact Nat.le_refl _); clear hm_ hb_ hg_) | (go_at_call 16; have hkey := B_82; clear hkey; refine (ReduceL HHO.out Lh_82.out).mono ?_; rintro e w83 ⟨Ab, nb, cb, rfl, hL, hb⟩; have B_83 := Aside0.mk (below_step B_82.out hb); have DL_83 := Aside0.mk (blk_below DL_82.out hb); have DH_83 := Aside0.mk (blk_below DH_82.out hb); have DA_83 := Aside0.mk (blk_below DA_82.out hb); have Ll_83 := Aside0.mk (Ll_82.out.below hb); have Lh_83 := Aside0.mk (Lh_82.out.below hb); have La_83 := Aside0.mk (La_82.out.below hb); clear DL_82 DH_82 DA_82 Ll_82 Lh_82 La_82; have Lb_83 := Aside0.mk (hL); clear hb hL) | ((with_reducible refine gate_dst (N := 170) rfl ?_); refine loadP_g rfl ?hw g8 _ _ _ rfl DH_82.out ?_; (case hw => rfl)) | ((with_reducible refine gate_store (p := 14) rfl ?_); refine storeP_event rfl rfl rfl gA ((hf W : Nat) : Int) ((hf H : Nat) : Int) Aa na ca _ _ _ rfl rfl ZA.out ?_; intro w82 hm_ hst_ hbl_; have BL81_2 := Aside0.mk (BL81_1.out.trans (hbl_ _ GGA.out)); have ZA_ := Aside0.mk hm_; have B_82 := Aside0.mk (below_step B_81.out BL81_2.out); have DL_82 := Aside0.mk (blk_below DL_81.out BL81_2.out); have DH_82 := Aside0.mk (blk_below DH_81.out BL81_2.out); have Ll_82 := Aside0.mk (Ll_81.out.below BL81_2.out); have Lh_82 := Aside0.mk (Lh_81.out.below BL81_2.out); have La_82 := Aside0.mk (La_81.out.below BL81_2.out); clear DL_81 DH_81 Ll_81 Lh_81 La_81; have DA_82 := Aside0.mk (ZA_.out); clear ZA_ ZA BL81_1 BL81_2; clear hm_ hst_ hbl_) | ((with_reducible refine gate_dst (N := 14) rfl ?_); refine box_event ?hg (N := 14) ?hd (cs := #[.int .i64 0, .int .i64 0, .slice none 0 0]) (t := 25) ?hr ?_; (case hd => rfl); (case hg => rfl); (case hr => first | (go_simp; done) | (go_simp; rfl)); intro gA hg_ w81_1 hm_ hb_; have BL81_1 := Aside0.mk (hb_); have ZA := Aside0.mk (hm_); have GGA := Aside0.mk (show w81.heap.size ≤ gA by rw [hg_]; exact Nat.le_refl _); clear hm_ hb_ hg_) | (go_at_call 16; have hkey := B_80; clear hkey; refine (ReduceL HLO.out Ll_80.out).mono ?_; rintro e w81 ⟨Aa, na, ca, rfl, hL, hb⟩; have B_81 := Aside0.mk (below_step B_80.out hb); have DL_81 := Aside0.mk (blk_below DL_80.out hb); have DH_81 := Aside0.mk (blk_below DH_80.out hb); have Ll_81 := Aside0.mk (Ll_80.out.below hb); have Lh_81 := Aside0.mk (Lh_80.out.below hb); clear DL_80 DH_80 Ll_80 Lh_80; have La_81 := Aside0.mk (hL); clear hb hL) | ((with_reducible refine gate_dst (N := 165) rfl ?_); refine loadP_g rfl ?hw g7 _ _ _ rfl DL_80.out ?_; (case hw => rfl)) | (go_at_call 17; refine (num_calls _ _).mono ?_; rintro e _ ⟨rfl, rfl⟩))
    go_ret
    exact ⟨rfl, B_90.out⟩
   ·skip
    obtain ⟨W3, hW3⟩ : ∃ W3, W2 - 1 = W3 := ⟨_, rfl⟩
    obtain ⟨H3, hH3⟩ : ∃ H3, H2 - 1 = H3 := ⟨_, rfl⟩
    have g1 : wrap64 ((W2 : Int) - 1) = (W3 : Int) := dec64 hW3 HWH2.out.1 (by rw [← HW2.out]; exact HWH.out.2.2.1)
    have g2 : wrap64 ((H2 : Int) - 1) = (H3 : Int) := dec64 hH3 HWH2.out.2 (by rw [← HH2.out]; exact HWH.out.2.2.2.1)
    have HSZ : Aside0 (0 < W3 ∧ 0 < H3 ∧ W3 ≤ 1024 ∧ H3 ≤ 1024 ∧ W3 * H3 ≤ 65536) := ⟨size_of HWH.out HW2.out HH2.out (size_p3 HWH2.out.1 hW3) (size_p3 HWH2.out.2 hH3) (size_l3 hW3) (size_l3 hH3)⟩
    have HWW : Aside0 (hf W3 = W) := ⟨hf_t3 HW2.out hW3 HWH.out.1⟩
    have HHH : Aside0 (hf H3 = H) := ⟨hf_t3 HH2.out hH3 HWH.out.2.1⟩
    have HN3 : Aside0 ((expS W H W3 H3 ls).length = (expS W H W3 H3 hs).length) := ⟨by rw [expS_length, expS_length]⟩
    have HN4 : Aside0 (0 < (expS W H W3 H3 ls).length) := ⟨by rw [expS_length]; exact Nat.mul_pos HSZ.out.1 HSZ.out.2.1⟩
    have HR2 : Aside0 (∀ k, k < (expS W H W3 H3 ls).length → P3 lz mz (gt (expS W H W3 H3 ls) k) (gt (expS W H W3 H3 hs) k)) := ⟨fun k hk => resZ_ris_all expandS expand_good expand_pos HSL.out HSM.out (lt5 HSZ.out.2.2.1) (lt5 HSZ.out.2.2.2.1) HWH.out.1 HWH.out.2.1 HPP.out k (by rw [expS_length, Nat.mul_comm] at hk; exact hk)⟩
    clear hW3 hH3
    go_wp2_with (first | (go_at_call 29; have hkey := B_89; clear hkey; refine (risesL HDL.out HDM.out Lc_89.out Ld_89.out HN3.out HN4.out HR2.out).mono ?_; rintro e w90 ⟨rfl, hb⟩; have B_90 := Aside0.mk (below_step B_89.out hb); have DL_90 := Aside0.mk (blk_below DL_89.out hb); have DH_90 := Aside0.mk (blk_below DH_89.out hb); have DA_90 := Aside0.mk (blk_below DA_89.out hb); have DB_90 := Aside0.mk (blk_below DB_89.out hb); have DC_90 := Aside0.mk (blk_below DC_89.out hb); have DE_90 := Aside0.mk (blk_below DE_89.out hb); have Ll_90 := Aside0.mk (Ll_89.out.below hb); have Lh_90 := Aside0.mk (Lh_89.out.below hb); have La_90 := Aside0.mk (La_89.out.below hb); have Lb_90 := Aside0.mk (Lb_89.out.below hb); have Lc_90 := Aside0.mk (Lc_89.out.below hb); have Ld_90 := Aside0.mk (Ld_89.out.below hb); clear DL_89 DH_89 DA_89 DB_89 DC_89 DE_89 Ll_89 Lh_89 La_89 Lb_89 Lc_89 Ld_89; clear hb) | ((with_reducible refine gate_dst (N := 209) rfl ?_); refine loadP_g rfl ?hw gE _ _ _ rfl DE_89.out ?_; (case hw => rfl)) | ((with_reducible refine gate_dst (N := 208) rfl ?_); refine loadP_g rfl ?hw gC _ _ _ rfl DC_89.out ?_; (case hw => rfl)) | (go_at_call 29; have hkey := B_88; clear hkey; refine (risesL HDL.out HDM.out La_88.out Lb_88.out HN1.out HN2.out HR1.out).mono ?_; rintro e w89 ⟨rfl, hb⟩; have B_89 := Aside0.mk (below_step B_88.out hb); have DL_89 := Aside0.mk (blk_below DL_88.out hb); have DH_89 := Aside0.mk (blk_below DH_88.out hb); have DA_89 := Aside0.mk (blk_below DA_88.out hb); have DB_89 := Aside0.mk (blk_below DB_88.out hb); have DC_89 := Aside0.mk (blk_below DC_88.out hb); have DE_89 := Aside0.mk (blk_below DE_88.out hb); have Ll_89 := Aside0.mk (Ll_88.out.below hb); have Lh_89 := Aside0.mk (Lh_88.out.below hb); have La_89 := Aside0.mk (La_88.out.below hb); have Lb_89 := Aside0.mk (Lb_88.out.below hb); have Lc_89 := Aside0.mk (Lc_88.out.below hb); have Ld_89 := Aside0.mk (Ld_88.out.below hb); clear DL_88 DH_88 DA_88 DB_88 DC_88 DE_88 Ll_88 Lh_88 La_88 Lb_88 Lc_88 Ld_88; clear hb) | ((with_reducible refine gate_dst (N := 202) rfl ?_); refine loadP_g rfl ?hw gB _ _ _ rfl DB_88.out ?_; (case hw => rfl)) | ((with_reducible refine gate_dst (N := 201) rfl ?_); refine loadP_g rfl ?hw gA _ _ _ rfl DA_88.out ?_; (case hw => rfl)) | ((with_reducible refine gate_store (p := 20) rfl ?_); refine storeP_event rfl rfl rfl gE (W3 : Int) (H3 : Int) Ad nd cd_ _ _ _ rfl rfl ZE.out ?_; intro w88 hm_ hst_ hbl_; have BL87_2 := Aside0.mk (BL87_1.out.trans (hbl_ _ GGE.out)); have ZE_ := Aside0.mk hm_; have B_88 := Aside0.mk (below_step B_87.out BL87_2.out); have DL_88 := Aside0.mk (blk_below DL_87.out BL87_2.out); have DH_88 := Aside0.mk (blk_below DH_87.out BL87_2.out); have DA_88 := Aside0.mk (blk_below DA_87.out BL87_2.out); have DB_88 := Aside0.mk (blk_below DB_87.out BL87_2.out); have DC_88 := Aside0.mk (blk_below DC_87.out BL87_2.out); have Ll_88 := Aside0.mk (Ll_87.out.below BL87_2.out); have Lh_88 := Aside0.mk (Lh_87.out.below BL87_2.out); have La_88 := Aside0.mk (La_87.out.below BL87_2.out); have Lb_88 := Aside0.mk (Lb_87.out.below BL87_2.out); have Lc_88 := Aside0.mk (Lc_87.out.below BL87_2.out); have Ld_88 := Aside0.mk (Ld_87.out.below BL87_2.out); clear DL_87 DH_87 DA_87 DB_87 DC_87 Ll_87 Lh_87 La_87 Lb_87 Lc_87 Ld_87; have DE_88 := Aside0.mk (ZE_.out); clear ZE_ ZE BL87_1 BL87_2; clear hm_ hst_ hbl_) | ((with_reducible refine gate_dst (N := 20) rfl ?_); refine box_event ?hg (N := 20) ?hd (cs := #[.int .i64 0, .int .i64 0, .slice none 0 0]) (t := 25) ?hr ?_; (case hd => rfl); (case hg => rfl); (case hr => first | (go_simp; done) | (go_simp; rfl)); intro gE hg_ w87_1 hm_ hb_; have BL87_1 := Aside0.mk (hb_); have ZE := Aside0.mk (hm_); have GGE := Aside0.mk (show w87.heap.size ≤ gE by rw [hg_]; exact Nat.le_refl _); clear hm_ hb_ hg_) | (go_at_call 20; have hkey := B_86; clear hkey; refine (ExpandL HHO.out Lh_86.out HSZ.out HWW.out HHH.out).mono ?_; rintro e w87 ⟨Ad, nd, cd_, rfl, hL, hb⟩; have B_87 := Aside0.mk (below_step B_86.out hb); have DL_87 := Aside0.mk (blk_below DL_86.out hb); have DH_87 := Aside0.mk (blk_below DH_86.out hb); have DA_87 := Aside0.mk (blk_below DA_86.out hb); have DB_87 := Aside0.mk (blk_below DB_86.out hb); have DC_87 := Aside0.mk (blk_below DC_86.out hb); have Ll_87 := Aside0.mk (Ll_86.out.below hb); have Lh_87 := Aside0.mk (Lh_86.out.below hb); have La_87 := Aside0.mk (La_86.out.below hb); have Lb_87 := Aside0.mk (Lb_86.out.below hb); have Lc_87 := Aside0.mk (Lc_86.out.below hb); clear DL_86 DH_86 DA_86 DB_86 DC_86 Ll_86 Lh_86 La_86 Lb_86 Lc_86; have Ld_87 := Aside0.mk (hL); clear hb hL) | ((with_reducible refine gate_dst (N := 182) rfl ?_); refine loadP_g rfl ?hw g8 _ _ _ rfl DH_86.out ?_; (case hw => rfl)) | ((with_reducible refine gate_store (p := 18) rfl ?_); refine storeP_event rfl rfl rfl gC (W3 : Int) (H3 : Int) Ac nc cc _ _ _ rfl rfl ZC.out ?_; intro w86 hm_ hst_ hbl_; have BL85_2 := Aside0.mk (BL85_1.out.trans (hbl_ _ GGC.out)); have ZC_ := Aside0.mk hm_; have B_86 := Aside0.mk (below_step B_85.out BL85_2.out); have DL_86 := Aside0.mk (blk_below DL_85.out BL85_2.out); have DH_86 := Aside0.mk (blk_below DH_85.out BL85_2.out); have DA_86 := Aside0.mk (blk_below DA_85.out BL85_2.out); have DB_86 := Aside0.mk (blk_below DB_85.out BL85_2.out); have Ll_86 := Aside0.mk (Ll_85.out.below BL85_2.out); have Lh_86 := Aside0.mk (Lh_85.out.below BL85_2.out); have La_86 := Aside0.mk (La_85.out.below BL85_2.out); have Lb_86 := Aside0.mk (Lb_85.out.below BL85_2.out); have Lc_86 := Aside0.mk (Lc_85.out.below BL85_2.out); clear DL_85 DH_85 DA_85 DB_85 Ll_85 Lh_85 La_85 Lb_85 Lc_85; have DC_86 := Aside0.mk (ZC_.out); clear ZC_ ZC BL85_1 BL85_2; clear hm_ hst_ hbl_) | ((with_reducible refine gate_dst (N := 18) rfl ?_); refine box_event ?hg (N := 18) ?hd (cs := #[.int .i64 0, .int .i64 0, .slice none 0 0]) (t := 25) ?hr ?_; (case hd => rfl); (case hg => rfl); (case hr => first | (go_simp; done) | (go_simp; rfl)); intro gC hg_ w85_1 hm_ hb_; have BL85_1 := Aside0.mk (hb_); have ZC := Aside0.mk (hm_); have GGC := Aside0.mk (show w85.heap.size ≤ gC by rw [hg_]; exact Nat.le_refl _); clear hm_ hb_ hg_) | (go_at_call 20; have hkey := B_84; clear hkey; refine (ExpandL HLO.out Ll_84.out HSZ.out HWW.out HHH.out).mono ?_; rintro e w85 ⟨Ac, nc, cc, rfl, hL, hb⟩; have B_85 := Aside0.mk (below_step B_84.out hb); have DL_85 := Aside0.mk (blk_below DL_84.out hb); have DH_85 := Aside0.mk (blk_below DH_84.out hb); have DA_85 := Aside0.mk (blk_below DA_84.out hb); have DB_85 := Aside0.mk (blk_below DB_84.out hb); have Ll_85 := Aside0.mk (Ll_84.out.below hb); have Lh_85 := Aside0.mk (Lh_84.out.below hb); have La_85 := Aside0.mk (La_84.out.below hb); have Lb_85 := Aside0.mk (Lb_84.out.below hb); clear DL_84 DH_84 DA_84 DB_84 Ll_84 Lh_84 La_84 Lb_84; have Lc_85 := Aside0.mk (hL); clear hb hL) | ((with_reducible refine gate_dst (N := 175) rfl ?_); refine loadP_g rfl ?hw g7 _ _ _ rfl DL_84.out ?_; (case hw => rfl)) | ((with_reducible refine gate_store (p := 16) rfl ?_); refine storeP_event rfl rfl rfl gB ((hf W : Nat) : Int) ((hf H : Nat) : Int) Ab nb cb _ _ _ rfl rfl ZB.out ?_; intro w84 hm_ hst_ hbl_; have BL83_2 := Aside0.mk (BL83_1.out.trans (hbl_ _ GGB.out)); have ZB_ := Aside0.mk hm_; have B_84 := Aside0.mk (below_step B_83.out BL83_2.out); have DL_84 := Aside0.mk (blk_below DL_83.out BL83_2.out); have DH_84 := Aside0.mk (blk_below DH_83.out BL83_2.out); have DA_84 := Aside0.mk (blk_below DA_83.out BL83_2.out); have Ll_84 := Aside0.mk (Ll_83.out.below BL83_2.out); have Lh_84 := Aside0.mk (Lh_83.out.below BL83_2.out); have La_84 := Aside0.mk (La_83.out.below BL83_2.out); have Lb_84 := Aside0.mk (Lb_83.out.below BL83_2.out); clear DL_83 DH_83 DA_83 Ll_83 Lh_83 La_83 Lb_83; have DB_84 := Aside0.mk (ZB_.out); clear ZB_ ZB BL83_1 BL83_2; clear hm_ hst_ hbl_) | ((with_reducible refine gate_dst (N := 16) rfl ?_); refine box_event ?hg (N := 16) ?hd (cs := #[.int .i64 0, .int .i64 0, .slice none 0 0]) (t := 25) ?hr ?_; (case hd => rfl); (case hg => rfl); (case hr => first | (go_simp; done) | (go_simp; rfl)); intro gB hg_ w83_1 hm_ hb_; have BL83_1 := Aside0.mk (hb_); have ZB := Aside0.mk (hm_); have GGB := Aside0.mk (show w83.heap.size ≤ gB by rw [hg_]; exact Nat.le_refl _); clear hm_ hb_ hg_) | (go_at_call 16; have hkey := B_82; clear hkey; refine (ReduceL HHO.out Lh_82.out).mono ?_; rintro e w83 ⟨Ab, nb, cb, rfl, hL, hb⟩; have B_83 := Aside0.mk (below_step B_82.out hb); have DL_83 := Aside0.mk (blk_below DL_82.out hb); have DH_83 := Aside0.mk (blk_below DH_82.out hb); have DA_83 := Aside0.mk (blk_below DA_82.out hb); have Ll_83 := Aside0.mk (Ll_82.out.below hb); have Lh_83 := Aside0.mk (Lh_82.out.below hb); have La_83 := Aside0.mk (La_82.out.below hb); clear DL_82 DH_82 DA_82 Ll_82 Lh_82 La_82; have Lb_83 := Aside0.mk (hL); clear hb hL) | ((with_reducible refine gate_dst (N := 170) rfl ?_); refine loadP_g rfl ?hw g8 _ _ _ rfl DH_82.out ?_; (case hw => rfl)) | ((with_reducible refine gate_store (p := 14) rfl ?_); refine storeP_event rfl rfl rfl gA ((hf W : Nat) : Int) ((hf H : Nat) : Int) Aa na ca _ _ _ rfl rfl ZA.out ?_; intro w82 hm_ hst_ hbl_; have BL81_2 := Aside0.mk (BL81_1.out.trans (hbl_ _ GGA.out)); have ZA_ := Aside0.mk hm_; have B_82 := Aside0.mk (below_step B_81.out BL81_2.out); have DL_82 := Aside0.mk (blk_below DL_81.out BL81_2.out); have DH_82 := Aside0.mk (blk_below DH_81.out BL81_2.out); have Ll_82 := Aside0.mk (Ll_81.out.below BL81_2.out); have Lh_82 := Aside0.mk (Lh_81.out.below BL81_2.out); have La_82 := Aside0.mk (La_81.out.below BL81_2.out); clear DL_81 DH_81 Ll_81 Lh_81 La_81; have DA_82 := Aside0.mk (ZA_.out); clear ZA_ ZA BL81_1 BL81_2; clear hm_ hst_ hbl_) | ((with_reducible refine gate_dst (N := 14) rfl ?_); refine box_event ?hg (N := 14) ?hd (cs := #[.int .i64 0, .int .i64 0, .slice none 0 0]) (t := 25) ?hr ?_; (case hd => rfl); (case hg => rfl); (case hr => first | (go_simp; done) | (go_simp; rfl)); intro gA hg_ w81_1 hm_ hb_; have BL81_1 := Aside0.mk (hb_); have ZA := Aside0.mk (hm_); have GGA := Aside0.mk (show w81.heap.size ≤ gA by rw [hg_]; exact Nat.le_refl _); clear hm_ hb_ hg_) | (go_at_call 16; have hkey := B_80; clear hkey; refine (ReduceL HLO.out Ll_80.out).mono ?_; rintro e w81 ⟨Aa, na, ca, rfl, hL, hb⟩; have B_81 := Aside0.mk (below_step B_80.out hb); have DL_81 := Aside0.mk (blk_below DL_80.out hb); have DH_81 := Aside0.mk (blk_below DH_80.out hb); have Ll_81 := Aside0.mk (Ll_80.out.below hb); have Lh_81 := Aside0.mk (Lh_80.out.below hb); clear DL_80 DH_80 Ll_80 Lh_80; have La_81 := Aside0.mk (hL); clear hb hL) | ((with_reducible refine gate_dst (N := 165) rfl ?_); refine loadP_g rfl ?hw g7 _ _ _ rfl DL_80.out ?_; (case hw => rfl)) | (go_at_call 17; refine (num_calls _ _).mono ?_; rintro e _ ⟨rfl, rfl⟩))
    go_ret
    exact ⟨rfl, B_90.out⟩
theorem pyramidRises (x y : Int) (A : Option Addr) (cap : Nat) (xs : List Nat) (u v : Int) (B : Option Addr) (capq : Nat) (ys : List Nat) (odd : Bool) (w : World) (hC : (nat .u32).C w A xs.length xs) (hc : xs.length ≤ cap) (hx : ∀ i, gt xs i < 4294967296) (hD : (nat .u32).C w B ys.length ys) (hd : ys.length ≤ capq) (hy : ∀ i, gt ys i < 4294967296) :
    Calls Try.prog 6 #[.agg #[.int .i64 x, .int .i64 y, .slice A xs.length cap], .agg #[.int .i64 u, .int .i64 v, .slice B ys.length capq], .bool odd] w fun e w' => e = .returned (.bool true) ∧ Below w.heap.size w w' := by
 have h1 := PL.start hC hc
 have h2 := PL.start hD hd
 by_cases hE : checkE x y xs.length = 0
 ·by_cases hF : checkE u v ys.length = 0
  ·obtain ⟨W, H, rfl, rfl, e1⟩ := checkE_zero hE
   obtain ⟨U, V, rfl, rfl, e2⟩ := checkE_zero hF
   have hp := ok_mk hE hx
   have hq := ok_mk hF hy
   by_cases hg : W ≠ U ∨ H ≠ V ∨ 16384 < 4 * W * H ∨ 1024 < 2 * W ∨ 1024 < 2 * H
   ·exact rises_guard W H U V A B _ cap _ capq odd xs ys w h1 h2 hp hq hg
   ·obtain rfl : W = U := by omega
    obtain rfl : H = V := by omega
    have hl : ys.length = xs.length := by rw [hp.2.2.2.2.2.1.trans rfl, hq.2.2.2.2.2.1.trans rfl]
    rw [hl] at h2 ⊢
    exact rises_main W H A B _ cap capq odd xs ys w h1 h2 hp hq (by omega) (by omega) (by omega)
  ·exact rises_bad2 x y u v A B _ cap _ capq odd xs ys w h1 h2 hE hF
 ·exact rises_bad1 x y u v A B _ cap _ capq odd xs ys w h1 h2 hE
end Go.Proofs.Ytodlgdpkadkjjaa.A
end
