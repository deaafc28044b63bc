import Derived.Test.YtodlgdpkadkjjaaU3
section
set_option linter.unusedVariables false
set_option linter.unusedSimpArgs false
namespace Go.Proofs.Ytodlgdpkadkjjaa.A
open Go.RowKit Go.Shelf Go.Proofs.YtodlgdpkadkjjaaW.PrintWords Go.Proofs.YtodlgdpkadkjjaaW.PrintLast Go.Proofs.YtodlgdpkadkjjaaW.PrintMore Go.Proofs.Ytodlgdpkadkjjaa.PPyramidLevels

/-- Join's error -/
def joinE (x y : Int) (n : Nat) (u v : Int) (m : Nat) : Nat := if checkE x y n ≠ 0 then checkE x y n else if checkE u v m ≠ 0 then checkE u v m else if ((hf u.toNat : Nat) : Int) = x ∧ ((hf v.toNat : Nat) : Int) = y then 0 else 141
theorem joinE_zero {x y : Int} {n : Nat} {u v : Int} {m : Nat} (h : joinE x y n u v m = 0) : ∃ W H w_ h_ : Nat, x = W ∧ y = H ∧ u = w_ ∧ v = h_ ∧ checkE x y n = 0 ∧ checkE u v m = 0 ∧ hf w_ = W ∧ hf h_ = H := by
 unfold joinE at h
 by_cases h1 : checkE x y n ≠ 0
 ·rw [if_pos h1] at h; exact absurd h h1
 rw [if_neg h1] at h
 by_cases h2 : checkE u v m ≠ 0
 ·rw [if_pos h2] at h; exact absurd h h2
 rw [if_neg h2] at h
 by_cases h3 : ((hf u.toNat : Nat) : Int) = x ∧ ((hf v.toNat : Nat) : Int) = y
 ·obtain ⟨W, H, rfl, rfl, _⟩ := checkE_zero (Decidable.not_not.mp h1)
  obtain ⟨w_, h_, rfl, rfl, _⟩ := checkE_zero (Decidable.not_not.mp h2)
  simp only [Int.toNat_natCast] at h3
  exact ⟨W, H, w_, h_, rfl, rfl, rfl, rfl, Decidable.not_not.mp h1, Decidable.not_not.mp h2, by omega, by omega⟩
 ·rw [if_neg h3] at h; exact absurd h (by decide)
theorem Join_err (x y : Int) (A : Option Addr) (n cap : Nat) (u v : Int) (D : Option Addr) (m dcap : Nat) (w : World) (hn : n < 9223372036854775808) (hm : m < 9223372036854775808) (hE : joinE x y n u v m ≠ 0) :
    Calls Try.prog 33 #[.agg #[.int .i64 x, .int .i64 y, .slice A n cap], .agg #[.int .i64 u, .int .i64 v, .slice D m dcap]] w fun e w' => e = .returned (.tuple #[.agg #[.int .i64 0, .int .i64 0, .slice none 0 0], .int .i64 ((joinE x y n u v m : Nat) : Int)]) ∧ Below w.heap.size w w' := by
 unfold joinE at hE ⊢
 by_cases h1 : checkE x y n ≠ 0
 ·rw [if_pos h1] at hE ⊢; exact Join_bad1 x y A n cap u v D m dcap w hn h1
 rw [if_neg h1] at hE ⊢
 have h1 := Decidable.not_not.mp h1
 by_cases h2 : checkE u v m ≠ 0
 ·rw [if_pos h2] at hE ⊢; exact Join_bad2 x y A n cap u v D m dcap w hn hm h1 h2
 rw [if_neg h2] at hE ⊢
 have h2 := Decidable.not_not.mp h2
 by_cases h3 : ((hf u.toNat : Nat) : Int) = x ∧ ((hf v.toNat : Nat) : Int) = y
 ·rw [if_pos h3] at hE; exact absurd rfl hE
 rw [if_neg h3]
 obtain ⟨W, H, rfl, rfl, _⟩ := checkE_zero h1
 obtain ⟨w_, h_, rfl, rfl, _⟩ := checkE_zero h2
 simp only [Int.toNat_natCast] at h3
 by_cases h4 : hf w_ = W
 ·exact Join_high W H A n cap w_ h_ D m dcap w h1 h2 h4 (fun h5 => h3 ⟨by omega, by omega⟩)
 ·exact Join_wide W H A n cap w_ h_ D m dcap w h1 h2 h4
theorem ok_mk {W H : Nat} {xs : List Nat} (h : checkE (W : Int) (H : Int) xs.length = 0) (hx : ∀ i, gt xs i < 4294967296) : (Pl.mk W H xs).ok := by
 obtain ⟨W', H', h1, h2, hok⟩ := ok_of h hx
 obtain rfl : W = W' := by omega
 obtain rfl : H = H' := by omega
 exact hok
theorem zip_back {xs es : List Nat} (hl : xs.length = es.length) (hx : ∀ i, gt xs i < 4294967296) (he : ∀ i, gt es i < 4294967296) : zipN addA (zipN difA xs es) es = xs := by
 refine gt_ext (by rw [zipN_length, hl]) (fun i hi => ?_)
 rw [zipN_length] at hi
 rw [gt_zipN hi, gt_zipN hi, addA_difA (hx i) (he i)]
/-- split and joined -/
theorem joi_fin {W H : Nat} {xs : List Nat} (hp : (Pl.mk W H xs).ok) : joiS (hf W) (hf H) W H (redS W H xs) (finS W H xs) = xs := by
 obtain ⟨p1, p2, p3, p4, p5, p6, p7⟩ := hp
 unfold joiS finS
 exact zip_back (by rw [expS_length]; exact p6) p7 (expS_lt (red_ok ⟨p1, p2, p3, p4, p5, p6, p7⟩) p3 p4)
theorem PL.start {w : World} {A : Option Addr} {c : Nat} {xs : List Nat} (h : (nat .u32).C w A xs.length xs) (hc : xs.length ≤ c) : PL w A xs.length c xs := ⟨h, hc, rfl⟩
theorem PL.lt {w : World} {A : Option Addr} {n c : Nat} {xs : List Nat} (h : PL w A n c xs) : n < 9223372036854775808 := by have := Kd.C_max h.1; omega
set_option maxHeartbeats 4000000 in
set_option maxRecDepth 100000 in
theorem again_err (x y : Int) (A : Option Addr) (n cap : Nat) (u v : Int) (D : Option Addr) (m dcap : Nat) (w : World) (hn : n < 9223372036854775808) (hm : m < 9223372036854775808) (hE : joinE x y n u v m ≠ 0) (xs ys : List Nat) (hx : PL w A n cap xs) (hy : PL w D m dcap ys) :
    Calls Try.prog 9 #[.agg #[.int .i64 x, .int .i64 y, .slice A n cap], .agg #[.int .i64 u, .int .i64 v, .slice D m dcap]] w fun e w' => e = .returned (.bool true) ∧ Below w.heap.size w w' := by
 have hu25 := Try.underlying25
 have HJ := Aside0.mk (fun W => Join_err x y A n cap u v D m dcap W hn hm hE)
 obtain ⟨c, hc⟩ : ∃ c, joinE x y n u v m = c := ⟨_, rfl⟩
 rw [hc] at HJ hE
 have t1 : ((c : Int) != 0) = true := by rw [bne_iff_ne]; omega
 have Lx_0 := Aside0.mk hx
 have Ly_0 := Aside0.mk hy
 clear hn hm hE hc hx hy
 have B_0 : Aside0 (Below w.heap.size w w) := ⟨Below.refl _ _⟩
 go_enter Try.func9, Try.ntmps9
 go_upto_region 5 with (first | ((with_reducible refine gate_store (p := 5) rfl ?_); refine storeP_event rfl rfl rfl g5 0 0 none 0 0 _ _ _ rfl rfl ZP.out ?_; intro w5 hm_ hst_ hbl_; have BL4_2 := Aside0.mk (BL4_1.out.trans (hbl_ _ GGP.out)); have ZP_ := Aside0.mk hm_; have B_5 := Aside0.mk (below_step B_4.out BL4_2.out); have DX_5 := Aside0.mk (blk_below DX_4.out BL4_2.out); have DY_5 := Aside0.mk (blk_below DY_4.out BL4_2.out); have Lx_5 := Aside0.mk (Lx_4.out.below BL4_2.out); have Ly_5 := Aside0.mk (Ly_4.out.below BL4_2.out); clear DX_4 DY_4 Lx_4 Ly_4; have DP_5 := Aside0.mk (ZP_.out); clear ZP_ ZP BL4_1 BL4_2; clear hm_ hst_ hbl_) | ((with_reducible refine gate_dst (N := 5) rfl ?_); refine box_event ?hg (N := 5) ?hd (cs := #[.int .i64 0, .int .i64 0, .slice none 0 0]) (t := 25) ?hr ?_; (case hd => rfl); (case hg => rfl); (case hr => first | (go_simp; done) | (go_simp; rfl)); intro g5 hg_ w4_1 hm_ hb_; have BL4_1 := Aside0.mk (hb_); have ZP := Aside0.mk (hm_); have GGP := Aside0.mk (show w4.heap.size ≤ g5 by rw [hg_]; exact Nat.le_refl _); clear hm_ hb_ hg_) | (go_at_call 33; have hkey := B_3; clear hkey; refine (HJ.out _).mono ?_; rintro e w4 ⟨rfl, hb⟩; have B_4 := Aside0.mk (below_step B_3.out hb); have DX_4 := Aside0.mk (blk_below DX_3.out hb); have DY_4 := Aside0.mk (blk_below DY_3.out hb); have Lx_4 := Aside0.mk (Lx_3.out.below hb); have Ly_4 := Aside0.mk (Ly_3.out.below hb); clear DX_3 DY_3 Lx_3 Ly_3; clear hb) | ((with_reducible refine gate_dst (N := 16) rfl ?_); refine loadP_g rfl ?hw gY _ _ _ rfl DY_3.out ?_; (case hw => rfl)) | ((with_reducible refine gate_dst (N := 15) rfl ?_); refine loadP_g rfl ?hw gX _ _ _ rfl DX_3.out ?_; (case hw => rfl)) | (go_at_call 12; have hkey := B_2; clear hkey; refine (known_c _).mono ?_; rintro e w3 ⟨rfl, hb⟩; have B_3 := Aside0.mk (below_step B_2.out hb); have DX_3 := Aside0.mk (blk_below DX_2.out hb); have DY_3 := Aside0.mk (blk_below DY_2.out hb); have Lx_3 := Aside0.mk (Lx_2.out.below hb); have Ly_3 := Aside0.mk (Ly_2.out.below hb); clear DX_2 DY_2 Lx_2 Ly_2; clear hb) | ((with_reducible refine gate_dst (N := 3) rfl ?_); refine box_event ?hg (N := 3) ?hd (cs := #[.int .i64 u, .int .i64 v, .slice D m dcap]) (t := 25) ?hr ?_; (case hd => rfl); (case hg => rfl); (case hr => first | (go_simp; done) | (go_simp; rfl)); intro gY hg_ w2 hm_ hb_; have DY_2 := Aside0.mk (hm_); have DX_2 := Aside0.mk (blk_below DX_1.out hb_); have B_2 := Aside0.mk (below_step B_1.out hb_); have Lx_2 := Aside0.mk (Lx_1.out.below hb_); have Ly_2 := Aside0.mk (Ly_1.out.below hb_); clear DX_1 Lx_1 Ly_1; clear hm_ hb_ hg_) | ((with_reducible refine gate_dst (N := 2) rfl ?_); refine box_event ?hg (N := 2) ?hd (cs := #[.int .i64 x, .int .i64 y, .slice A n cap]) (t := 25) ?hr ?_; (case hd => rfl); (case hg => rfl); (case hr => first | (go_simp; done) | (go_simp; rfl)); intro gX hg_ w1 hm_ hb_; have DX_1 := Aside0.mk (hm_); have B_1 := Aside0.mk (below_step B_0.out hb_); have Lx_1 := Aside0.mk (Lx_0.out.below hb_); have Ly_1 := Aside0.mk (Ly_0.out.below hb_); clear Lx_0 Ly_0; clear hm_ hb_ hg_) | (go_at_call 17; refine (num_calls _ _).mono ?_; rintro e _ ⟨rfl, rfl⟩))
 have p0 := (blk_cell DP_5.out 0).trans rfl
 have p1 := (blk_cell DP_5.out 1).trans rfl
 have p2 := (blk_cell DP_5.out 2).trans rfl
 go_wp2
 go_ret
 exact ⟨rfl, B_5.out⟩
set_option maxHeartbeats 4000000 in
set_option maxRecDepth 100000 in
theorem again_ok (W H : Nat) (A : Option Addr) (n cap : Nat) (w_ h_ : Nat) (D : Option Addr) (m dcap : Nat) (w : World) (xs ys : List Nat) (hp : (Pl.mk W H xs).ok) (hq : (Pl.mk w_ h_ ys).ok) (hW : hf w_ = W) (hH : hf h_ = H) (hx : PL w A n cap xs) (hy : PL w D m dcap ys) :
    Calls Try.prog 9 #[.agg #[.int .i64 (W : Int), .int .i64 (H : Int), .slice A n cap], .agg #[.int .i64 (w_ : Int), .int .i64 (h_ : Int), .slice D m dcap]] w fun e w' => e = .returned (.bool true) ∧ Below w.heap.size w w' := by
 have hu25 := Try.underlying25
 obtain ⟨ps, hps⟩ : ∃ ps, joiS W H w_ h_ xs ys = ps := ⟨_, rfl⟩
 have R1 := Aside0.mk hps
 have hok : (Pl.mk w_ h_ ps).ok := by rw [← hps]; exact joi_ok hq
 have HP := Aside0.mk hp
 have HQ := Aside0.mk hq
 have HW := Aside0.mk hW
 have HH := Aside0.mk hH
 have HK := Aside0.mk hok
 have HR := Aside0.mk (red_ok hok)
 have HS := Aside0.mk (fin_ok hok)
 have R2 := Aside0.mk (joi_fin hok)
 have HL : Aside0 (ps.length < 4611686018427387904) := ⟨by have h1 : ps.length = w_ * h_ := hok.2.2.2.2.2.1; have h2 : w_ * h_ ≤ 65536 := hok.2.2.2.2.1; omega⟩
 have Lx_0 := Aside0.mk hx
 have Ly_0 := Aside0.mk hy
 clear hps hok hp hq hW hH hx hy
 have hw0 : wrap64 0 = 0 := w64 (by decide) (by decide)
 have B_0 : Aside0 (Below w.heap.size w w) := ⟨Below.refl _ _⟩
 go_enter Try.func9, Try.ntmps9
 go_wp2_with (first | (go_at_call 18; have hkey := B_9; clear hkey; refine (same_s Lq_9.out Lp_9.out HL.out).mono ?_; rintro e w10 ⟨rfl, hb⟩; have B_10 := Aside0.mk (below_step B_9.out hb); have DX_10 := Aside0.mk (blk_below DX_9.out hb); have DY_10 := Aside0.mk (blk_below DY_9.out hb); have DP_10 := Aside0.mk (blk_below DP_9.out hb); have DC_10 := Aside0.mk (blk_below DC_9.out hb); have DF_10 := Aside0.mk (blk_below DF_9.out hb); have DQ_10 := Aside0.mk (blk_below DQ_9.out hb); have Lx_10 := Aside0.mk (Lx_9.out.below hb); have Ly_10 := Aside0.mk (Ly_9.out.below hb); have Lp_10 := Aside0.mk (Lp_9.out.below hb); have La_10 := Aside0.mk (La_9.out.below hb); have Lb_10 := Aside0.mk (Lb_9.out.below hb); have Lq_10 := Aside0.mk (Lq_9.out.below hb); clear DX_9 DY_9 DP_9 DC_9 DF_9 DQ_9 Lx_9 Ly_9 Lp_9 La_9 Lb_9 Lq_9; clear hb) | ((with_reducible refine gate_dst (N := 47) rfl ?_); refine loadP_g rfl ?hw g5 _ _ _ rfl DP_9.out ?_; (case hw => rfl)) | ((with_reducible refine gate_dst (N := 46) rfl ?_); refine loadP_g rfl ?hw g10 _ _ _ rfl DQ_9.out ?_; (case hw => rfl)) | ((with_reducible refine gate_store (p := 10) rfl ?_); refine storeP_event rfl rfl rfl g10 (w_ : Int) (h_ : Int) A4 n4 c4 _ _ _ rfl rfl ZQ.out ?_; intro w9 hm_ hst_ hbl_; have BL8_2 := Aside0.mk (BL8_1.out.trans (hbl_ _ GGQ.out)); have ZQ_ := Aside0.mk hm_; have B_9 := Aside0.mk (below_step B_8.out BL8_2.out); have DX_9 := Aside0.mk (blk_below DX_8.out BL8_2.out); have DY_9 := Aside0.mk (blk_below DY_8.out BL8_2.out); have DP_9 := Aside0.mk (blk_below DP_8.out BL8_2.out); have DC_9 := Aside0.mk (blk_below DC_8.out BL8_2.out); have DF_9 := Aside0.mk (blk_below DF_8.out BL8_2.out); have Lx_9 := Aside0.mk (Lx_8.out.below BL8_2.out); have Ly_9 := Aside0.mk (Ly_8.out.below BL8_2.out); have Lp_9 := Aside0.mk (Lp_8.out.below BL8_2.out); have La_9 := Aside0.mk (La_8.out.below BL8_2.out); have Lb_9 := Aside0.mk (Lb_8.out.below BL8_2.out); have Lq_9 := Aside0.mk (Lq_8.out.below BL8_2.out); clear DX_8 DY_8 DP_8 DC_8 DF_8 Lx_8 Ly_8 Lp_8 La_8 Lb_8 Lq_8; have DQ_9 := Aside0.mk (ZQ_.out); clear ZQ_ ZQ BL8_1 BL8_2; clear hm_ hst_ hbl_) | ((with_reducible refine gate_dst (N := 10) rfl ?_); refine box_event ?hg (N := 10) ?hd (cs := #[.int .i64 0, .int .i64 0, .slice none 0 0]) (t := 25) ?hr ?_; (case hd => rfl); (case hg => rfl); (case hr => first | (go_simp; done) | (go_simp; rfl)); intro g10 hg_ w8_1 hm_ hb_; have BL8_1 := Aside0.mk (hb_); have ZQ := Aside0.mk (hm_); have GGQ := Aside0.mk (show w8.heap.size ≤ g10 by rw [hg_]; exact Nat.le_refl _); clear hm_ hb_ hg_) | (go_at_call 33; have hkey := B_7; clear hkey; refine (JoinL HR.out HS.out La_7.out Lb_7.out rfl rfl).mono ?_; rintro e w8 ⟨A4, n4, c4, rfl, hL, hb⟩; rw [R2.out] at hL; have B_8 := Aside0.mk (below_step B_7.out hb); have DX_8 := Aside0.mk (blk_below DX_7.out hb); have DY_8 := Aside0.mk (blk_below DY_7.out hb); have DP_8 := Aside0.mk (blk_below DP_7.out hb); have DC_8 := Aside0.mk (blk_below DC_7.out hb); have DF_8 := Aside0.mk (blk_below DF_7.out hb); have Lx_8 := Aside0.mk (Lx_7.out.below hb); have Ly_8 := Aside0.mk (Ly_7.out.below hb); have Lp_8 := Aside0.mk (Lp_7.out.below hb); have La_8 := Aside0.mk (La_7.out.below hb); have Lb_8 := Aside0.mk (Lb_7.out.below hb); clear DX_7 DY_7 DP_7 DC_7 DF_7 Lx_7 Ly_7 Lp_7 La_7 Lb_7; have Lq_8 := Aside0.mk (hL); clear hb hL) | ((with_reducible refine gate_dst (N := 35) rfl ?_); refine loadP_g rfl ?hw g8 _ _ _ rfl DF_7.out ?_; (case hw => rfl)) | ((with_reducible refine gate_dst (N := 34) rfl ?_); refine loadP_g rfl ?hw g7 _ _ _ rfl DC_7.out ?_; (case hw => rfl)) | ((with_reducible refine gate_store (p := 8) rfl ?_); refine storeP_event rfl rfl rfl g8 (w_ : Int) (h_ : Int) A3 n3 c3 _ _ _ rfl rfl ZF.out ?_; intro w7 hm_ hst_ hbl_; have BL6_4 := Aside0.mk (BL6_3.out.trans (hbl_ _ GGF.out)); have ZF_ := Aside0.mk hm_; have ZC_ := Aside0.mk ((hst_ g7 NECF.out).trans ZC_.out); have B_7 := Aside0.mk (below_step B_6.out BL6_4.out); have DX_7 := Aside0.mk (blk_below DX_6.out BL6_4.out); have DY_7 := Aside0.mk (blk_below DY_6.out BL6_4.out); have DP_7 := Aside0.mk (blk_below DP_6.out BL6_4.out); have Lx_7 := Aside0.mk (Lx_6.out.below BL6_4.out); have Ly_7 := Aside0.mk (Ly_6.out.below BL6_4.out); have Lp_7 := Aside0.mk (Lp_6.out.below BL6_4.out); have La_7 := Aside0.mk (La_6.out.below BL6_4.out); have Lb_7 := Aside0.mk (Lb_6.out.below BL6_4.out); clear DX_6 DY_6 DP_6 Lx_6 Ly_6 Lp_6 La_6 Lb_6; have DC_7 := Aside0.mk (ZC_.out); have DF_7 := Aside0.mk (ZF_.out); clear ZC_ ZC ZF_ ZF BL6_1 BL6_2 BL6_3 BL6_4; clear hm_ hst_ hbl_) | ((with_reducible refine gate_store (p := 7) rfl ?_); refine storeP_event rfl rfl rfl g7 ((hf w_ : Nat) : Int) ((hf h_ : Nat) : Int) A2 n2 c2 _ _ _ rfl rfl ZC.out ?_; intro w6_3 hm_ hst_ hbl_; have BL6_3 := Aside0.mk (BL6_2.out.trans (hbl_ _ GGC.out)); have ZC_ := Aside0.mk hm_; have ZF := Aside0.mk ((hst_ g8 NECF.out.symm).trans ZF.out); clear hm_ hst_ hbl_) | ((with_reducible refine gate_dst (N := 8) rfl ?_); refine box_event ?hg (N := 8) ?hd (cs := #[.int .i64 0, .int .i64 0, .slice none 0 0]) (t := 25) ?hr ?_; (case hd => rfl); (case hg => rfl); (case hr => first | (go_simp; done) | (go_simp; rfl)); intro g8 hg_ w6_2 hm_ hb_; have BL6_2 := Aside0.mk (BL6_1.out.trans (hb_.mono BL6_1.out.size)); have ZF := Aside0.mk (hm_); have GGF := Aside0.mk (show w6.heap.size ≤ g8 by rw [hg_]; exact BL6_1.out.size); have NECF := Aside0.mk (show g7 ≠ g8 by rw [hg_]; have := blk_lt ZC.out; omega); have ZC := Aside0.mk (blk_below ZC.out hb_); clear hm_ hb_ hg_) | ((with_reducible refine gate_dst (N := 7) rfl ?_); refine box_event ?hg (N := 7) ?hd (cs := #[.int .i64 0, .int .i64 0, .slice none 0 0]) (t := 25) ?hr ?_; (case hd => rfl); (case hg => rfl); (case hr => first | (go_simp; done) | (go_simp; rfl)); intro g7 hg_ w6_1 hm_ hb_; have BL6_1 := Aside0.mk (hb_); have ZC := Aside0.mk (hm_); have GGC := Aside0.mk (show w6.heap.size ≤ g7 by rw [hg_]; exact Nat.le_refl _); clear hm_ hb_ hg_) | (go_at_call 25; have hkey := B_5; clear hkey; refine (SplitL HK.out Lp_5.out).mono ?_; rintro e w6 ⟨A2, n2, c2, A3, n3, c3, rfl, hL, hL2, hb⟩; have B_6 := Aside0.mk (below_step B_5.out hb); have DX_6 := Aside0.mk (blk_below DX_5.out hb); have DY_6 := Aside0.mk (blk_below DY_5.out hb); have DP_6 := Aside0.mk (blk_below DP_5.out hb); have Lx_6 := Aside0.mk (Lx_5.out.below hb); have Ly_6 := Aside0.mk (Ly_5.out.below hb); have Lp_6 := Aside0.mk (Lp_5.out.below hb); clear DX_5 DY_5 DP_5 Lx_5 Ly_5 Lp_5; have La_6 := Aside0.mk (hL); have Lb_6 := Aside0.mk (hL2); clear hb hL hL2) | ((with_reducible refine gate_dst (N := 28) rfl ?_); refine loadP_g rfl ?hw g5 _ _ _ rfl DP_5.out ?_; (case hw => rfl)) | ((with_reducible refine gate_store (p := 5) rfl ?_); refine storeP_event rfl rfl rfl g5 (w_ : Int) (h_ : Int) A1 n1 c1 _ _ _ rfl rfl ZP.out ?_; intro w5 hm_ hst_ hbl_; have BL4_2 := Aside0.mk (BL4_1.out.trans (hbl_ _ GGP.out)); have ZP_ := Aside0.mk hm_; have B_5 := Aside0.mk (below_step B_4.out BL4_2.out); have DX_5 := Aside0.mk (blk_below DX_4.out BL4_2.out); have DY_5 := Aside0.mk (blk_below DY_4.out BL4_2.out); have Lx_5 := Aside0.mk (Lx_4.out.below BL4_2.out); have Ly_5 := Aside0.mk (Ly_4.out.below BL4_2.out); have Lp_5 := Aside0.mk (Lp_4.out.below BL4_2.out); clear DX_4 DY_4 Lx_4 Ly_4 Lp_4; have DP_5 := Aside0.mk (ZP_.out); clear ZP_ ZP BL4_1 BL4_2; clear hm_ hst_ hbl_) | ((with_reducible refine gate_dst (N := 5) rfl ?_); refine box_event ?hg (N := 5) ?hd (cs := #[.int .i64 0, .int .i64 0, .slice none 0 0]) (t := 25) ?hr ?_; (case hd => rfl); (case hg => rfl); (case hr => first | (go_simp; done) | (go_simp; rfl)); intro g5 hg_ w4_1 hm_ hb_; have BL4_1 := Aside0.mk (hb_); have ZP := Aside0.mk (hm_); have GGP := Aside0.mk (show w4.heap.size ≤ g5 by rw [hg_]; exact Nat.le_refl _); clear hm_ hb_ hg_) | (go_at_call 33; have hkey := B_3; clear hkey; refine (JoinL HP.out HQ.out Lx_3.out Ly_3.out HW.out HH.out).mono ?_; rintro e w4 ⟨A1, n1, c1, rfl, hL, hb⟩; rw [R1.out] at hL; have B_4 := Aside0.mk (below_step B_3.out hb); have DX_4 := Aside0.mk (blk_below DX_3.out hb); have DY_4 := Aside0.mk (blk_below DY_3.out hb); have Lx_4 := Aside0.mk (Lx_3.out.below hb); have Ly_4 := Aside0.mk (Ly_3.out.below hb); clear DX_3 DY_3 Lx_3 Ly_3; have Lp_4 := Aside0.mk (hL); clear hb hL) | ((with_reducible refine gate_dst (N := 16) rfl ?_); refine loadP_g rfl ?hw gY _ _ _ rfl DY_3.out ?_; (case hw => rfl)) | ((with_reducible refine gate_dst (N := 15) rfl ?_); refine loadP_g rfl ?hw gX _ _ _ rfl DX_3.out ?_; (case hw => rfl)) | (go_at_call 12; have hkey := B_2; clear hkey; refine (known_c _).mono ?_; rintro e w3 ⟨rfl, hb⟩; have B_3 := Aside0.mk (below_step B_2.out hb); have DX_3 := Aside0.mk (blk_below DX_2.out hb); have DY_3 := Aside0.mk (blk_below DY_2.out hb); have Lx_3 := Aside0.mk (Lx_2.out.below hb); have Ly_3 := Aside0.mk (Ly_2.out.below hb); clear DX_2 DY_2 Lx_2 Ly_2; clear hb) | ((with_reducible refine gate_dst (N := 3) rfl ?_); refine box_event ?hg (N := 3) ?hd (cs := #[.int .i64 (w_ : Int), .int .i64 (h_ : Int), .slice D m dcap]) (t := 25) ?hr ?_; (case hd => rfl); (case hg => rfl); (case hr => first | (go_simp; done) | (go_simp; rfl)); intro gY hg_ w2 hm_ hb_; have DY_2 := Aside0.mk (hm_); have DX_2 := Aside0.mk (blk_below DX_1.out hb_); have B_2 := Aside0.mk (below_step B_1.out hb_); have Lx_2 := Aside0.mk (Lx_1.out.below hb_); have Ly_2 := Aside0.mk (Ly_1.out.below hb_); clear DX_1 Lx_1 Ly_1; clear hm_ hb_ hg_) | ((with_reducible refine gate_dst (N := 2) rfl ?_); refine box_event ?hg (N := 2) ?hd (cs := #[.int .i64 (W : Int), .int .i64 (H : Int), .slice A n cap]) (t := 25) ?hr ?_; (case hd => rfl); (case hg => rfl); (case hr => first | (go_simp; done) | (go_simp; rfl)); intro gX hg_ w1 hm_ hb_; have DX_1 := Aside0.mk (hm_); have B_1 := Aside0.mk (below_step B_0.out hb_); have Lx_1 := Aside0.mk (Lx_0.out.below hb_); have Ly_1 := Aside0.mk (Ly_0.out.below hb_); clear Lx_0 Ly_0; clear hm_ hb_ hg_) | (go_at_call 17; refine (num_calls _ _).mono ?_; rintro e _ ⟨rfl, rfl⟩))
 go_ret
 exact ⟨rfl, B_10.out⟩
theorem pyramidAgain (x y : Int) (A : Option Addr) (cap : Nat) (xs : List Nat) (u v : Int) (D : Option Addr) (dcap : Nat) (ys : List Nat) (w : World) (hC : (nat .u32).C w A xs.length xs) (hc : xs.length ≤ cap) (hx : ∀ i, gt xs i < 4294967296) (hD : (nat .u32).C w D ys.length ys) (hd : ys.length ≤ dcap) (hy : ∀ i, gt ys i < 4294967296) :
    Calls Try.prog 9 #[.agg #[.int .i64 x, .int .i64 y, .slice A xs.length cap], .agg #[.int .i64 u, .int .i64 v, .slice D ys.length dcap]] w fun e w' => e = .returned (.bool true) ∧ Below w.heap.size w w' := by
 have h1 := PL.start hC hc
 have h2 := PL.start hD hd
 by_cases hE : joinE x y xs.length u v ys.length = 0
 ·obtain ⟨W, H, w_, h_, rfl, rfl, rfl, rfl, e1, e2, e3, e4⟩ := joinE_zero hE
  exact again_ok W H A _ cap w_ h_ D _ dcap w xs ys (ok_mk e1 hx) (ok_mk e2 hy) e3 e4 h1 h2
 ·exact again_err x y A _ cap u v D _ dcap w h1.lt h2.lt hE xs ys h1 h2
end Go.Proofs.Ytodlgdpkadkjjaa.A
end
