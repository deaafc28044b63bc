import Derived.Test.YtodlgdpkadkjjaaY3
section
set_option linter.unusedVariables false
set_option linter.unusedSimpArgs false
namespace Go.Proofs.Ytodlgdpkadkjjaa.A
open Go.RowKit Go.Shelf Go.Proofs.YtodlgdpkadkjjaaW.PrintWords Go.Proofs.YtodlgdpkadkjjaaW.PrintLast Go.Proofs.YtodlgdpkadkjjaaW.PrintMore Go.Proofs.Ytodlgdpkadkjjaa.PPyramidLevels
theorem hf_twice (n : Nat) : hf (2 * n) = n := by unfold hf; omega
theorem hf_le2 {n : Nat} (h : 2 * n ≤ 1024) : hf n ≤ 512 := by unfold hf; omega
theorem cellAt {w : World} {A : Option Addr} {n c k : Nat} {xs : List Nat} (h : PL w A n c xs) (hk : k < xs.length) : ∃ ad, A = some ad ∧ w.cell? (ad.add k) = some (.int .u32 ((gt xs k : Nat) : Int)) ∧ k < n := by
 have hk' : k < n := by rw [← h.2.2]; exact hk
 obtain ⟨ad, hA, hx⟩ := C_nat h.1 k hk'
 exact ⟨ad, hA, hx, hk'⟩
set_option maxHeartbeats 16000000 in
set_option maxRecDepth 100000 in
theorem needs_main (W H : Nat) (x y : Nat) (A : Option Addr) (n cap s : Nat) (xs : List Nat) (w : World) (hx : PL w A n cap xs) (hp : (Pl.mk W H xs).ok) (hs : s < 4294967296) (gx : x < hf W) (gy : y < hf H) (gW : 2 * W ≤ 1024) (gH : 2 * H ≤ 1024) (gP : 4 * W * H ≤ 65536) :
    Calls Try.prog 7 #[.agg #[.int .i64 (W : Int), .int .i64 (H : Int), .slice A n cap], .int .i64 (x : Int), .int .i64 (y : Int), .int .u32 (s : Int)] w fun e w' => e = .returned (.bool true) ∧ Below w.heap.size w w' := by
 have hu25 := Try.underlying25
 have HN := Aside0.mk hx.lt
 have Lx_0 := Aside0.mk hx
 have HE : Aside0 (checkE (W : Int) (H : Int) n = 0) := ⟨by rw [← hx.2.2]; exact hp.checkE⟩
 have hwl : W ≤ 1024 := hp.2.2.1
 have hhl : H ≤ 1024 := hp.2.2.2.1
 have hwh : W * H ≤ 65536 := hp.2.2.2.2.1
 obtain ⟨W2, hW2⟩ : ∃ W2, 2 * W = W2 := ⟨_, rfl⟩
 obtain ⟨H2, hH2⟩ : ∃ H2, 2 * H = H2 := ⟨_, rfl⟩
 obtain ⟨W4, hW4⟩ : ∃ W4, 4 * W = W4 := ⟨_, rfl⟩
 obtain ⟨P4, hP4⟩ : ∃ P4, W4 * H = P4 := ⟨_, rfl⟩
 have hb4 : P4 ≤ 262144 := by rw [← hP4, ← hW4, Nat.mul_assoc]; omega
 have hwp : 0 < W := hp.1
 have hhp : 0 < H := hp.2.1
 have HP := Aside0.mk hp
 have HS := Aside0.mk hs
 have GX := Aside0.mk gx
 have GY := Aside0.mk gy
 have HWH : Aside0 (0 < W ∧ 0 < H ∧ 2 * W ≤ 1024 ∧ 2 * H ≤ 1024) := ⟨⟨hwp, hhp, gW, gH⟩⟩
 have e44 : W2 * H2 = P4 := by rw [← hW2, ← hH2, ← hP4, ← hW4, Nat.mul_mul_mul_comm, Nat.mul_assoc 4 W H]
 have gp4 : P4 ≤ 65536 := by rw [← hP4, ← hW4]; exact gP
 have HS2 : Aside0 (0 < W2 ∧ 0 < H2 ∧ W2 ≤ 1024 ∧ H2 ≤ 1024 ∧ W2 * H2 ≤ 65536) := ⟨⟨by omega, by omega, by omega, by omega, by rw [e44]; exact gp4⟩⟩
 have HWW : Aside0 (hf W2 = W) := ⟨by rw [← hW2]; exact hf_twice W⟩
 have HHH : Aside0 (hf H2 = H) := ⟨by rw [← hH2]; exact hf_twice H⟩
 have HW2 := Aside0.mk hW2
 have HH2 := Aside0.mk hH2
 have bx : x < 512 := Nat.lt_of_lt_of_le gx (hf_le2 gW)
 have by_ : y < 512 := Nat.lt_of_lt_of_le gy (hf_le2 gH)
 have hfw := hf_le2 gW
 obtain ⟨X2, hX2⟩ : ∃ X2, 2 * x = X2 := ⟨_, rfl⟩
 obtain ⟨Y2, hY2⟩ : ∃ Y2, 2 * y = Y2 := ⟨_, rfl⟩
 have HX2 := Aside0.mk hX2
 have HY2 := Aside0.mk hY2
 have K1 : Aside0 (0 ≤ (X2 : Int) ∧ (X2 : Int) ≤ 3000) := ⟨by omega⟩
 have K2 : Aside0 (0 ≤ (Y2 : Int) ∧ (Y2 : Int) ≤ 3000) := ⟨by omega⟩
 have K3 : Aside0 ((X2 : Int) ≤ (X2 : Int) ∧ (X2 : Int) ≤ 3000) := ⟨by omega⟩
 have K4 : Aside0 ((Y2 : Int) ≤ (Y2 : Int) ∧ (Y2 : Int) ≤ 3000) := ⟨by omega⟩
 have K5 : Aside0 (0 ≤ (2 : Int) ∧ (2 : Int) ≤ 2) := ⟨by decide⟩
 obtain ⟨R1, hR1⟩ : ∃ R1, y * hf W = R1 := ⟨_, rfl⟩
 obtain ⟨k1, hk1⟩ : ∃ k1, R1 + x = k1 := ⟨_, rfl⟩
 have gk1 : k1 < (redS W H xs).length := by rw [redS_length, ← hk1, ← hR1, Nat.mul_comm (hf W)]; exact row_lt gx gy
 have hR1b : R1 ≤ 512 * 512 := by rw [← hR1]; exact Nat.mul_le_mul (by omega) hfw
 have HK1 : Aside0 (y * hf W + x = k1) := ⟨by rw [hR1, hk1]⟩
 have GK1 := Aside0.mk gk1
 obtain ⟨x2, hx2⟩ : ∃ x2, x / 2 = x2 := ⟨_, rfl⟩
 obtain ⟨y2, hy2⟩ : ∃ y2, y / 2 = y2 := ⟨_, rfl⟩
 obtain ⟨hxc, hhx⟩ : ∃ h, (x + 1) / 2 = h := ⟨_, rfl⟩
 obtain ⟨hyc, hhy⟩ : ∃ h, (y + 1) / 2 = h := ⟨_, rfl⟩
 have HX3 := Aside0.mk hx2
 have HY3 := Aside0.mk hy2
 have HX4 := Aside0.mk hhx
 have HY4 := Aside0.mk hhy
 have J1 : Aside0 (0 ≤ (x2 : Int) ∧ (x2 : Int) ≤ 3000) := ⟨by omega⟩
 have J2 : Aside0 (0 ≤ (y2 : Int) ∧ (y2 : Int) ≤ 3000) := ⟨by omega⟩
 have J3 : Aside0 ((x2 : Int) ≤ (hxc : Int) ∧ (hxc : Int) ≤ 3000) := ⟨by omega⟩
 have J4 : Aside0 ((y2 : Int) ≤ (hyc : Int) ∧ (hyc : Int) ≤ 3000) := ⟨by omega⟩
 have J5 : Aside0 (0 ≤ (1 : Int) ∧ (1 : Int) ≤ 2) := ⟨by decide⟩
 obtain ⟨R2, hR2⟩ : ∃ R2, Y2 * W = R2 := ⟨_, rfl⟩
 obtain ⟨k2, hk2⟩ : ∃ k2, R2 + x = k2 := ⟨_, rfl⟩
 have e2w : y * W2 = R2 := by rw [← hR2, ← hW2, ← hY2, ← Nat.mul_assoc, Nat.mul_comm y 2]
 have gxw : x < W2 := by have : hf W ≤ W := by unfold hf; omega
                         omega
 have gyh : y < H2 := by have : hf H ≤ H := by unfold hf; omega
                         omega
 have GX2 := Aside0.mk gxw
 have GY2 := Aside0.mk gyh
 have gk2 : k2 < (expS W H W2 H2 xs).length := by rw [expS_length, ← hk2, ← e2w, Nat.mul_comm W2]; exact row_lt gxw gyh
 have HK2 : Aside0 (y * W2 + x = k2) := ⟨by rw [e2w, hk2]⟩
 have GK2 := Aside0.mk gk2
 have hR2b : R2 ≤ 1024 * 512 := by rw [← hR2]; exact Nat.mul_le_mul (by omega) (by omega)
 have t1 : decide ((x : Int) < 0) = false := decide_eq_false (by omega)
 have t2 : decide ((y : Int) < 0) = false := decide_eq_false (by omega)
 have t3 : decide (((hf W : Nat) : Int) ≤ (x : Int)) = false := decide_eq_false (by omega)
 have t4 : decide (((hf H : Nat) : Int) ≤ (y : Int)) = false := decide_eq_false (by omega)
 have t3n : decide (hf W ≤ x) = false := decide_eq_false (by omega)
 have t4n : decide (hf H ≤ y) = false := decide_eq_false (by omega)
 have t5 : decide ((1024 : Int) < (W2 : Int)) = false := decide_eq_false (by omega)
 have t6 : decide ((1024 : Int) < (H2 : Int)) = false := decide_eq_false (by omega)
 have t7 : decide ((65536 : Int) < (P4 : Int)) = false := decide_eq_false (by omega)
 have q1_ : (x : Int).tdiv 2 = (x2 : Int) := by rw [← hx2]; rfl
 have q2_ : (y : Int).tdiv 2 = (y2 : Int) := by rw [← hy2]; rfl
 have q3_ : ((x : Int) + 1).tdiv 2 = (hxc : Int) := by rw [← hhx]; rfl
 have q4_ : ((y : Int) + 1).tdiv 2 = (hyc : Int) := by rw [← hhy]; rfl
 have f3 : hf W < 1000000 := hf_big hwl
 have f6 : hf H < 1000000 := hf_big hhl
 have f7 : wrap64 ((hf W : Nat) : Int) = ((hf W : Nat) : Int) := w64N _ (Nat.le_of_lt f3)
 have f8 : wrap64 ((hf H : Nat) : Int) = ((hf H : Nat) : Int) := w64N _ (Nat.le_of_lt f6)
 have f1 : wrap64 ((W : Int) + 1) = (W : Int) + 1 := w64n1 hwl
 have f2 : ((W : Int) + 1).tdiv 2 = ((hf W : Nat) : Int) := rfl
 have f4 : wrap64 ((H : Int) + 1) = (H : Int) + 1 := w64n1 hhl
 have f5 : ((H : Int) + 1).tdiv 2 = ((hf H : Nat) : Int) := rfl
 have m1 : wrap64 (2 * (W : Int)) = (W2 : Int) := by rw [show 2 * (W : Int) = ((2 * W : Nat) : Int) from rfl, hW2]; exact w64N W2 (by rw [← hW2]; exact Nat.le_trans (Nat.mul_le_mul_left 2 hwl) (by decide))
 have m2 : wrap64 (2 * (H : Int)) = (H2 : Int) := by rw [show 2 * (H : Int) = ((2 * H : Nat) : Int) from rfl, hH2]; exact w64N H2 (by rw [← hH2]; exact Nat.le_trans (Nat.mul_le_mul_left 2 hhl) (by decide))
 have m3 : wrap64 (4 * (W : Int)) = (W4 : Int) := by rw [show 4 * (W : Int) = ((4 * W : Nat) : Int) from rfl, hW4]; exact w64N W4 (by rw [← hW4]; exact Nat.le_trans (Nat.mul_le_mul_left 4 hwl) (by decide))
 have m4 : wrap64 ((W4 : Int) * (H : Int)) = (P4 : Int) := by rw [← Int.natCast_mul, hP4]; exact w64N P4 (Nat.le_trans hb4 (by decide))
 have g1 : wrap64 (2 * (x : Int)) = (X2 : Int) := by rw [show 2 * (x : Int) = ((2 * x : Nat) : Int) from rfl, hX2]; exact w64N X2 (by rw [← hX2]; exact Nat.le_trans (Nat.mul_le_mul_left 2 (Nat.le_of_lt bx)) (by decide))
 have g2 : wrap64 (2 * (y : Int)) = (Y2 : Int) := by rw [show 2 * (y : Int) = ((2 * y : Nat) : Int) from rfl, hY2]; exact w64N Y2 (by rw [← hY2]; exact Nat.le_trans (Nat.mul_le_mul_left 2 (Nat.le_of_lt by_)) (by decide))
 have g2b : wrap64 ((y : Int) * 2) = (Y2 : Int) := by rw [Int.mul_comm]; exact g2
 have g3 : wrap64 ((y : Int) * ((hf W : Nat) : Int)) = (R1 : Int) := by rw [← Int.natCast_mul, hR1]; exact w64N R1 (Nat.le_trans hR1b (by decide))
 have hk1b : k1 ≤ 1000000 := by rw [← hk1]; clear g1 g2 g2b g3 f1 f4 f7 f8 m1 m2 m3 m4; omega
 have g4 : wrap64 ((R1 : Int) + (x : Int)) = (k1 : Int) := by rw [← Int.natCast_add, hk1]; exact w64N k1 hk1b
 have hk2b : k2 ≤ 1000000 := by rw [← hk2]; clear g1 g2 g2b g3 g4 f1 f4 f7 f8 m1 m2 m3 m4; omega
 have hxs : x2 ≤ 1000000 ∧ y2 ≤ 1000000 ∧ hxc ≤ 1000000 ∧ hyc ≤ 1000000 := by clear g1 g2 g2b g3 g4 f1 f4 f7 f8 m1 m2 m3 m4; omega
 have g5 : wrap64 (x2 : Int) = (x2 : Int) := w64N x2 hxs.1
 have g6 : wrap64 (y2 : Int) = (y2 : Int) := w64N y2 hxs.2.1
 have g7 : wrap64 (hxc : Int) = (hxc : Int) := w64N hxc hxs.2.2.1
 have g8 : wrap64 (hyc : Int) = (hyc : Int) := w64N hyc hxs.2.2.2
 have g9 : wrap64 ((x : Int) + 1) = (x : Int) + 1 := w64n1 (Nat.le_trans (Nat.le_of_lt bx) (by decide))
 have g10 : wrap64 ((y : Int) + 1) = (y : Int) + 1 := w64n1 (Nat.le_trans (Nat.le_of_lt by_) (by decide))
 have g11 : wrap64 ((Y2 : Int) * (W : Int)) = (R2 : Int) := by rw [← Int.natCast_mul, hR2]; exact w64N R2 (Nat.le_trans hR2b (by decide))
 have g12 : wrap64 ((R2 : Int) + (x : Int)) = (k2 : Int) := by rw [← Int.natCast_add, hk2]; exact w64N k2 hk2b
 have hw0 : wrap64 0 = 0 := w64 (by decide) (by decide)
 have v1 : IntKind.i64.wrap (x2 : Int) = (x2 : Int) := by simp only [i64_w]; exact g5
 have v2 : IntKind.i64.wrap (y2 : Int) = (y2 : Int) := by simp only [i64_w]; exact g6
 have v3 : IntKind.i64.wrap (hxc : Int) = (hxc : Int) := by simp only [i64_w]; exact g7
 have v4 : IntKind.i64.wrap (hyc : Int) = (hyc : Int) := by simp only [i64_w]; exact g8
 have v5 : IntKind.i64.wrap (2 * (W : Int)) = (W2 : Int) := by simp only [i64_w]; exact m1
 have v6 : IntKind.i64.wrap (2 * (H : Int)) = (H2 : Int) := by simp only [i64_w]; exact m2
 clear hwl hhl hwh hb4 hW2 hH2 hW4 hP4 hwp hhp e44 gp4 bx by_ hfw hX2 hY2 hR1 hk1 gk1 hR1b hx2 hy2 hhx hhy hR2 hk2 e2w gxw gyh gk2 hR2b gx gy gW gH gP hp hs hk1b hk2b hxs
 have B_0 : Aside0 (Below w.heap.size w w) := ⟨Below.refl _ _⟩
 go_enter Try.func7, Try.ntmps7
 go_upto_region 3 with (first | (go_at_call 12; have hkey := B_1; clear hkey; refine (known_c _).mono ?_; rintro e w2 ⟨rfl, hb⟩; have B_2 := Aside0.mk (below_step B_1.out hb); have DX_2 := Aside0.mk (blk_below DX_1.out hb); have Lx_2 := Aside0.mk (Lx_1.out.below hb); clear DX_1 Lx_1; clear hb) | ((with_reducible refine gate_dst (N := 4) rfl ?_); refine box_event ?hg (N := 4) ?hd (cs := #[.int .i64 (W : Int), .int .i64 (H : Int), .slice A n cap]) (t := 25) ?hr ?_; (case hd => rfl); (case hg => rfl); (case hr => first | (go_simp; done) | (go_simp; rfl)); intro gX hg_ w1 hm_ hb_; have DX_1 := Aside0.mk (hm_); have B_1 := Aside0.mk (below_step B_0.out hb_); have Lx_1 := Aside0.mk (Lx_0.out.below hb_); clear Lx_0; clear hm_ hb_ hg_))
 have DX_d := Aside0.mk (blk_drew DX_2.out)
 have Lx_d := Aside0.mk (Lx_2.out.below (below_drew1 (Below.refl _ _)))
 have B_d : Aside0 (Below w.heap.size w w2.drew) := ⟨below_drew1 B_2.out⟩
 clear DX_2 Lx_2 B_2
 have DX_10 := DX_d
 have Lx_10 := Lx_d
 have B_10 := B_d
 clear DX_d Lx_d B_d
 refine start_ (n := 10) (S := fun w' => w'.cell? ⟨gX, 0, none⟩ = some (.int .i64 (W : Int)) ∧ w'.cell? ⟨gX, 1, none⟩ = some (.int .i64 (H : Int)) ∧ w'.cell? ⟨gX, 2, none⟩ = some (.slice A n cap)) (ds := []) #[ff_,ff_,ff_,ff_,ff_,ff_,ff_,ff_,ff_,ff_] (by kernel_rfl) rfl rfl ⟨(blk_cell DX_10.out 0).trans rfl, (blk_cell DX_10.out 1).trans rfl, (blk_cell DX_10.out 2).trans rfl⟩ (fun hHeld => ?_)
 generalize w2.drew = w10 at *
 refine pure_ (i := 0) (N := some 21) (v := ?_) (a' := ?_) #[tt_,ff_,ff_,ff_,ff_,ff_,ff_,ff_,ff_,ff_] rfl rfl (by kernel_rfl) (fun _ _ _ h => h) (Or.inl ⟨by rfl, ?_⟩) ?_ ?_
 rotate_left
 ·intro w'
  go_simp
  with_reducible rfl
 rotate_left
 ·simp only [Act.put, List.setIfInBounds_toArray, List.set_cons_zero, List.set_cons_succ, i64_w, i32_w]
  rfl
 refine pure_ (i := 4) (N := some 25) (v := ?_) (a' := ?_) #[tt_,ff_,ff_,ff_,tt_,ff_,ff_,ff_,ff_,ff_] rfl rfl (by kernel_rfl) (fun _ _ _ h => h) (Or.inl ⟨by rfl, ?_⟩) ?_ ?_
 rotate_left
 ·intro w'
  go_simp
  with_reducible rfl
 rotate_left
 ·simp only [Act.put, List.setIfInBounds_toArray, List.set_cons_zero, List.set_cons_succ, i64_w, i32_w]
  rfl
 refine take_ (i := 1) (N := some 22) (v := ?_) (a' := ?_) #[tt_,tt_,ff_,ff_,tt_,ff_,ff_,ff_,ff_,ff_] rfl rfl (by kernel_rfl) (fun _ _ _ h => h) (Or.inl ⟨by rfl, ?_⟩) hHeld ?_ ?_
 rotate_left
 ·rintro w' ⟨s0, s1, s2⟩
  go_simp
  with_reducible rfl
 rotate_left
 ·simp only [Act.put, List.setIfInBounds_toArray, List.set_cons_zero, List.set_cons_succ, i64_w, i32_w]
  rfl
 refine pure_ (i := 2) (N := some 23) (v := ?_) (a' := ?_) #[tt_,tt_,tt_,ff_,tt_,ff_,ff_,ff_,ff_,ff_] rfl rfl (by kernel_rfl) (fun _ _ _ h => h) (Or.inl ⟨by rfl, ?_⟩) ?_ ?_
 rotate_left
 ·intro w'
  go_simp
  with_reducible rfl
 rotate_left
 ·simp only [Act.put, List.setIfInBounds_toArray, List.set_cons_zero, List.set_cons_succ, i64_w, i32_w]
  rfl
 refine pure_ (i := 3) (N := some 24) (v := ?_) (a' := ?_) #[tt_,tt_,tt_,tt_,tt_,ff_,ff_,ff_,ff_,ff_] rfl rfl (by kernel_rfl) (fun _ _ _ h => h) (Or.inl ⟨by rfl, ?_⟩) ?_ ?_
 rotate_left
 ·intro w'
  go_simp
  with_reducible rfl
 rotate_left
 ·simp only [Act.put, List.setIfInBounds_toArray, List.set_cons_zero, List.set_cons_succ, i64_w, i32_w]
  rfl
 refine pure_ (i := 8) (N := some 9) (v := ?_) (a' := ?_) #[tt_,tt_,tt_,tt_,tt_,ff_,ff_,ff_,tt_,ff_] rfl rfl (by kernel_rfl) (fun _ _ _ h => h) (Or.inl ⟨by rfl, ?_⟩) ?_ ?_
 rotate_left
 ·intro w'
  go_simp
  with_reducible rfl
 rotate_left
 ·simp only [Act.put, List.setIfInBounds_toArray, List.set_cons_zero, List.set_cons_succ, i64_w, i32_w]
  rfl
 refine take_ (i := 5) (N := some 26) (v := ?_) (a' := ?_) #[tt_,tt_,tt_,tt_,tt_,tt_,ff_,ff_,tt_,ff_] rfl rfl (by kernel_rfl) (fun _ _ _ h => h) (Or.inl ⟨by rfl, ?_⟩) hHeld ?_ ?_
 rotate_left
 ·rintro w' ⟨s0, s1, s2⟩
  go_simp
  with_reducible rfl
 rotate_left
 ·simp only [Act.put, List.setIfInBounds_toArray, List.set_cons_zero, List.set_cons_succ, i64_w, i32_w]
  rfl
 refine pure_ (i := 6) (N := some 27) (v := ?_) (a' := ?_) #[tt_,tt_,tt_,tt_,tt_,tt_,tt_,ff_,tt_,ff_] rfl rfl (by kernel_rfl) (fun _ _ _ h => h) (Or.inl ⟨by rfl, ?_⟩) ?_ ?_
 rotate_left
 ·intro w'
  go_simp
  with_reducible rfl
 rotate_left
 ·simp only [Act.put, List.setIfInBounds_toArray, List.set_cons_zero, List.set_cons_succ, i64_w, i32_w]
  rfl
 refine pure_ (i := 7) (N := some 28) (v := ?_) (a' := ?_) #[tt_,tt_,tt_,tt_,tt_,tt_,tt_,tt_,tt_,ff_] rfl rfl (by kernel_rfl) (fun _ _ _ h => h) (Or.inl ⟨by rfl, ?_⟩) ?_ ?_
 rotate_left
 ·intro w'
  go_simp
  with_reducible rfl
 rotate_left
 ·simp only [Act.put, List.setIfInBounds_toArray, List.set_cons_zero, List.set_cons_succ, i64_w, i32_w]
  rfl
 refine pure_ (i := 9) (N := some 10) (v := ?_) (a' := ?_) #[tt_,tt_,tt_,tt_,tt_,tt_,tt_,tt_,tt_,tt_] rfl rfl (by kernel_rfl) (fun _ _ _ h => h) (Or.inl ⟨by rfl, ?_⟩) ?_ ?_
 rotate_left
 ·intro w'
  go_simp
  with_reducible rfl
 rotate_left
 ·simp only [Act.put, List.setIfInBounds_toArray, List.set_cons_zero, List.set_cons_succ, i64_w, i32_w]
  rfl
 refine done_ (by kernel_rfl) ?_
 clear hHeld
 rw [f7, f8]
 go_upto_region 8 with (first | ((with_reducible refine gate_store (p := 13) rfl ?_); refine storeP_event rfl rfl rfl gB ((hf W : Nat) : Int) ((hf H : Nat) : Int) Ab nb cb _ _ _ rfl rfl ZB.out ?_; intro w16 hm_ hst_ hbl_; have BL15_2 := Aside0.mk (BL15_1.out.trans (hbl_ _ GGB.out)); have ZB_ := Aside0.mk hm_; have B_16 := Aside0.mk (below_step B_15.out BL15_2.out); have DX_16 := Aside0.mk (blk_below DX_15.out BL15_2.out); have DA_16 := Aside0.mk (blk_below DA_15.out BL15_2.out); have Lx_16 := Aside0.mk (Lx_15.out.below BL15_2.out); have La_16 := Aside0.mk (La_15.out.below BL15_2.out); have Lq_16 := Aside0.mk (Lq_15.out.below BL15_2.out); have Lb_16 := Aside0.mk (Lb_15.out.below BL15_2.out); clear DX_15 DA_15 Lx_15 La_15 Lq_15 Lb_15; have DB_16 := Aside0.mk (ZB_.out); clear ZB_ ZB BL15_1 BL15_2; clear hm_ hst_ hbl_) | ((with_reducible refine gate_dst (N := 13) rfl ?_); refine box_event ?hg (N := 13) ?hd (cs := #[.int .i64 0, .int .i64 0, .slice none 0 0]) (t := 25) ?hr ?_; (case hd => rfl); (case hg => rfl); (case hr => first | (go_simp; done) | (go_simp; rfl)); intro gB hg_ w15_1 hm_ hb_; have BL15_1 := Aside0.mk (hb_); have ZB := Aside0.mk (hm_); have GGB := Aside0.mk (show w15.heap.size ≤ gB by rw [hg_]; exact Nat.le_refl _); clear hm_ hb_ hg_) | (go_at_call 16; have hkey := B_14; clear hkey; refine (ReduceL HQ1.out Lq_14.out).mono ?_; rintro e w15 ⟨Ab, nb, cb, rfl, hL, hb⟩; have B_15 := Aside0.mk (below_step B_14.out hb); have DX_15 := Aside0.mk (blk_below DX_14.out hb); have DA_15 := Aside0.mk (blk_below DA_14.out hb); have Lx_15 := Aside0.mk (Lx_14.out.below hb); have La_15 := Aside0.mk (La_14.out.below hb); have Lq_15 := Aside0.mk (Lq_14.out.below hb); clear DX_14 DA_14 Lx_14 La_14 Lq_14; have Lb_15 := Aside0.mk (hL); clear hb hL) | (go_at_call 30; have hkey := B_13; clear hkey; refine (near_calls W H xs A n cap s (X2 : Int) (Y2 : Int) (X2 : Int) (Y2 : Int) 2 _ HP.out Lx_13.out HS.out K1.out K2.out K3.out K4.out K5.out).mono ?_; rintro e w14 ⟨A1, n1, c1, q1, rfl, hL, hq, hg, hb⟩; have B_14 := Aside0.mk (below_step B_13.out hb); have DX_14 := Aside0.mk (blk_below DX_13.out hb); have DA_14 := Aside0.mk (blk_below DA_13.out hb); have Lx_14 := Aside0.mk (Lx_13.out.below hb); have La_14 := Aside0.mk (La_13.out.below hb); clear DX_13 DA_13 Lx_13 La_13; have Lq_14 := Aside0.mk (hL); have HQ1 := Aside0.mk (hq); have HG1 := Aside0.mk (hg); clear hq hg; clear hb hL) | ((with_reducible refine gate_dst (N := 77) rfl ?_); refine loadP_g rfl ?hw gX _ _ _ rfl DX_13.out ?_; (case hw => rfl)) | ((with_reducible refine gate_store (p := 11) rfl ?_); refine storeP_event rfl rfl rfl gA ((hf W : Nat) : Int) ((hf H : Nat) : Int) Aa na ca _ _ _ rfl rfl ZA.out ?_; intro w13 hm_ hst_ hbl_; have BL12_2 := Aside0.mk (BL12_1.out.trans (hbl_ _ GGA.out)); have ZA_ := Aside0.mk hm_; have B_13 := Aside0.mk (below_step B_12.out BL12_2.out); have DX_13 := Aside0.mk (blk_below DX_12.out BL12_2.out); have Lx_13 := Aside0.mk (Lx_12.out.below BL12_2.out); have La_13 := Aside0.mk (La_12.out.below BL12_2.out); clear DX_12 Lx_12 La_12; have DA_13 := Aside0.mk (ZA_.out); clear ZA_ ZA BL12_1 BL12_2; clear hm_ hst_ hbl_) | ((with_reducible refine gate_dst (N := 11) rfl ?_); refine box_event ?hg (N := 11) ?hd (cs := #[.int .i64 0, .int .i64 0, .slice none 0 0]) (t := 25) ?hr ?_; (case hd => rfl); (case hg => rfl); (case hr => first | (go_simp; done) | (go_simp; rfl)); intro gA hg_ w12_1 hm_ hb_; have BL12_1 := Aside0.mk (hb_); have ZA := Aside0.mk (hm_); have GGA := Aside0.mk (show w12.heap.size ≤ gA by rw [hg_]; exact Nat.le_refl _); clear hm_ hb_ hg_) | (go_at_call 16; have hkey := B_11; clear hkey; refine (ReduceL HP.out Lx_11.out).mono ?_; rintro e w12 ⟨Aa, na, ca, rfl, hL, hb⟩; have B_12 := Aside0.mk (below_step B_11.out hb); have DX_12 := Aside0.mk (blk_below DX_11.out hb); have Lx_12 := Aside0.mk (Lx_11.out.below hb); clear DX_11 Lx_11; have La_12 := Aside0.mk (hL); clear hb hL) | ((with_reducible refine gate_dst (N := 72) rfl ?_); refine loadP_g rfl ?hw gX _ _ _ rfl DX_11.out ?_; (case hw => rfl)) | (go_at_call 26; have hkey := B_10; clear hkey; refine (May_calls (W : Int) (H : Int) A n cap _ HN.out).mono ?_; rw [HE.out]; rintro e w11 ⟨rfl, hb⟩; have B_11 := Aside0.mk (below_step B_10.out hb); have DX_11 := Aside0.mk (blk_below DX_10.out hb); have Lx_11 := Aside0.mk (Lx_10.out.below hb); clear DX_10 Lx_10; clear hb; have p0 := (blk_cell DX_11.out 0).trans rfl; have p1 := (blk_cell DX_11.out 1).trans rfl; have p2 := (blk_cell DX_11.out 2).trans rfl) | ((with_reducible refine gate_dst (N := 29) rfl ?_); refine loadP_g rfl ?hw gX _ _ _ rfl DX_10.out ?_; (case hw => rfl)))
 have DX_d := Aside0.mk (blk_drew DX_16.out)
 have DA_d := Aside0.mk (blk_drew DA_16.out)
 have DB_d := Aside0.mk (blk_drew DB_16.out)
 have Lx_d := Aside0.mk (Lx_16.out.below (below_drew1 (Below.refl _ _)))
 have La_d := Aside0.mk (La_16.out.below (below_drew1 (Below.refl _ _)))
 have Lq_d := Aside0.mk (Lq_16.out.below (below_drew1 (Below.refl _ _)))
 have Lb_d := Aside0.mk (Lb_16.out.below (below_drew1 (Below.refl _ _)))
 have B_d : Aside0 (Below w.heap.size w w16.drew) := ⟨below_drew1 B_16.out⟩
 clear DX_16 DA_16 DB_16 Lx_16 La_16 Lq_16 Lb_16 B_16
 have DX_20 := DX_d
 have DA_20 := DA_d
 have DB_20 := DB_d
 have Lx_20 := Lx_d
 have La_20 := La_d
 have Lq_20 := Lq_d
 have Lb_20 := Lb_d
 have B_20 := B_d
 clear DX_d DA_d DB_d Lx_d La_d Lq_d Lb_d B_d
 obtain ⟨adA, hA, hxA, iA⟩ := cellAt La_20.out GK1.out
 subst hA
 obtain ⟨adB, hA, hxB, iB⟩ := cellAt Lb_20.out (show k1 < (redS W H q1).length by have h := GK1.out; rw [redS_length] at h ⊢; exact h)
 subst hA
 have hEq : gt (redS W H xs) k1 = gt (redS W H q1) k1 := by
  rw [← HK1.out]
  refine redS_near HWH.out.1 HWH.out.2.1 GX.out GY.out (fun i j h1 h2 h3 h4 => HG1.out i j ?_ ?_ ?_ ?_)
  all_goals (have h5 := HX2.out; have h6 := HY2.out; clear g1 g2 g2b g3 g4 g5 g6 g7 g8 g9 g10 g11 g12 f1 f4 f7 f8 m1 m2 m3 m4 hw0 v1 v2 v3 v4 v5 v6; omega)
 obtain ⟨r1, hr1⟩ : ∃ r1, gt (redS W H xs) k1 = r1 := ⟨_, rfl⟩
 rw [← hEq, hr1] at hxB
 rw [hr1] at hxA
 have XA := Aside0.mk hxA
 have XB := Aside0.mk hxB
 have i1 : ((k1 : Int) < (na : Int)) = True := eq_true (Int.ofNat_lt.mpr iA)
 have i2 : ((k1 : Int) < (nb : Int)) = True := eq_true (Int.ofNat_lt.mpr iB)
 have n1 : ((r1 : Int) != (r1 : Int)) = false := bne_self_eq_false _
 clear hEq hr1 hxA hxB iA iB
 refine start_ (n := 27) (S := fun w' => w'.cell? ⟨gA, 2, none⟩ = some (.slice (some adA) na ca) ∧ w'.cell? ⟨gB, 2, none⟩ = some (.slice (some adB) nb cb) ∧ w'.cell? (adA.add k1) = some (.int .u32 (r1 : Int)) ∧ w'.cell? (adB.add k1) = some (.int .u32 (r1 : Int))) (ds := []) #[ff_,ff_,ff_,ff_,ff_,ff_,ff_,ff_,ff_,ff_,ff_,ff_,ff_,ff_,ff_,ff_,ff_,ff_,ff_,ff_,ff_,ff_,ff_,ff_,ff_,ff_,ff_] (by kernel_rfl) rfl rfl ⟨(blk_cell DA_20.out 2).trans rfl, (blk_cell DB_20.out 2).trans rfl, XA.out, XB.out⟩ (fun hHeld => ?_)
 generalize w16.drew = w20 at *
 refine pure_ (i := 0) (N := some 91) (v := ?_) (a' := ?_) #[tt_,ff_,ff_,ff_,ff_,ff_,ff_,ff_,ff_,ff_,ff_,ff_,ff_,ff_,ff_,ff_,ff_,ff_,ff_,ff_,ff_,ff_,ff_,ff_,ff_,ff_,ff_] rfl rfl (by kernel_rfl) (fun _ _ _ h => h) (Or.inl ⟨by rfl, ?_⟩) ?_ ?_
 rotate_left
 ·intro w'
  go_simp
  with_reducible rfl
 rotate_left
 ·simp only [Act.put, List.setIfInBounds_toArray, List.set_cons_zero, List.set_cons_succ, i64_w, i32_w]
  rfl
 refine pure_ (i := 2) (N := some 93) (v := ?_) (a' := ?_) #[tt_,ff_,tt_,ff_,ff_,ff_,ff_,ff_,ff_,ff_,ff_,ff_,ff_,ff_,ff_,ff_,ff_,ff_,ff_,ff_,ff_,ff_,ff_,ff_,ff_,ff_,ff_] rfl rfl (by kernel_rfl) (fun _ _ _ h => h) (Or.inl ⟨by rfl, ?_⟩) ?_ ?_
 rotate_left
 ·intro w'
  go_simp
  with_reducible rfl
 rotate_left
 ·simp only [Act.put, List.setIfInBounds_toArray, List.set_cons_zero, List.set_cons_succ, i64_w, i32_w]
  rfl
 refine one_ (i := 1) (N := some 92) #[tt_,tt_,tt_,ff_,ff_,ff_,ff_,ff_,ff_,ff_,ff_,ff_,ff_,ff_,ff_,ff_,ff_,ff_,ff_,ff_,ff_,ff_,ff_,ff_,ff_,ff_,ff_] rfl rfl (by kernel_rfl) (by decide) (fun K hK => ?_)
 refine goes_ Try.func17 (by kernel_rfl) rfl #[.int .i64 0] (by rfl) rfl rfl (by (try simp only [List.map_toArray, List.map_cons, List.map_nil]); rfl) ?_
 with_reducible refine (num_calls 0 _).mono ?_
 rintro e _ ⟨rfl, rfl⟩
 refine ⟨_, rfl, ?_⟩
 refine hK.out _ _ ⟨(blk_cell DA_20.out 2).trans rfl, (blk_cell DB_20.out 2).trans rfl, XA.out, XB.out⟩ (fun hHeld => ?_)
 clear hK K
 refine norm_ (a' := ?_) ?_ ?_
 rotate_left
 ·show Act.put _ (some 92) _ = _
  simp only [Act.put, List.setIfInBounds_toArray, List.set_cons_zero, List.set_cons_succ, i64_w, i32_w]
  rfl
 refine one_ (i := 3) (N := some 94) #[tt_,tt_,tt_,tt_,ff_,ff_,ff_,ff_,ff_,ff_,ff_,ff_,ff_,ff_,ff_,ff_,ff_,ff_,ff_,ff_,ff_,ff_,ff_,ff_,ff_,ff_,ff_] rfl rfl (by kernel_rfl) (by decide) (fun K hK => ?_)
 refine goes_ Try.func17 (by kernel_rfl) rfl #[.int .i64 0] (by rfl) rfl rfl (by (try simp only [List.map_toArray, List.map_cons, List.map_nil]); rfl) ?_
 with_reducible refine (num_calls 0 _).mono ?_
 rintro e _ ⟨rfl, rfl⟩
 refine ⟨_, rfl, ?_⟩
 refine hK.out _ _ ⟨(blk_cell DA_20.out 2).trans rfl, (blk_cell DB_20.out 2).trans rfl, XA.out, XB.out⟩ (fun hHeld => ?_)
 clear hK K
 refine norm_ (a' := ?_) ?_ ?_
 rotate_left
 ·show Act.put _ (some 94) _ = _
  simp only [Act.put, List.setIfInBounds_toArray, List.set_cons_zero, List.set_cons_succ, i64_w, i32_w]
  rfl
 refine pure_ (i := 4) (N := some 95) (v := ?_) (a' := ?_) #[tt_,tt_,tt_,tt_,tt_,ff_,ff_,ff_,ff_,ff_,ff_,ff_,ff_,ff_,ff_,ff_,ff_,ff_,ff_,ff_,ff_,ff_,ff_,ff_,ff_,ff_,ff_] rfl rfl (by kernel_rfl) (fun _ _ _ h => h) (Or.inl ⟨by rfl, ?_⟩) ?_ ?_
 rotate_left
 ·intro w'
  go_simp
  with_reducible rfl
 rotate_left
 ·simp only [Act.put, List.setIfInBounds_toArray, List.set_cons_zero, List.set_cons_succ, i64_w, i32_w]
  rfl
 refine pure_ (i := 5) (N := some 96) (v := ?_) (a' := ?_) #[tt_,tt_,tt_,tt_,tt_,tt_,ff_,ff_,ff_,ff_,ff_,ff_,ff_,ff_,ff_,ff_,ff_,ff_,ff_,ff_,ff_,ff_,ff_,ff_,ff_,ff_,ff_] rfl rfl (by kernel_rfl) (fun _ _ _ h => h) (Or.inl ⟨by rfl, ?_⟩) ?_ ?_
 rotate_left
 ·intro w'
  go_simp
  with_reducible rfl
 rotate_left
 ·simp only [Act.put, List.setIfInBounds_toArray, List.set_cons_zero, List.set_cons_succ, i64_w, i32_w]
  rfl
 refine pure_ (i := 6) (N := some 97) (v := ?_) (a' := ?_) #[tt_,tt_,tt_,tt_,tt_,tt_,tt_,ff_,ff_,ff_,ff_,ff_,ff_,ff_,ff_,ff_,ff_,ff_,ff_,ff_,ff_,ff_,ff_,ff_,ff_,ff_,ff_] rfl rfl (by kernel_rfl) (fun _ _ _ h => h) (Or.inl ⟨by rfl, ?_⟩) ?_ ?_
 rotate_left
 ·intro w'
  go_simp
  with_reducible rfl
 rotate_left
 ·simp only [Act.put, List.setIfInBounds_toArray, List.set_cons_zero, List.set_cons_succ, i64_w, i32_w]
  rfl
 refine pure_ (i := 7) (N := some 98) (v := ?_) (a' := ?_) #[tt_,tt_,tt_,tt_,tt_,tt_,tt_,tt_,ff_,ff_,ff_,ff_,ff_,ff_,ff_,ff_,ff_,ff_,ff_,ff_,ff_,ff_,ff_,ff_,ff_,ff_,ff_] rfl rfl (by kernel_rfl) (fun _ _ _ h => h) (Or.inl ⟨by rfl, ?_⟩) ?_ ?_
 rotate_left
 ·intro w'
  go_simp
  with_reducible rfl
 rotate_left
 ·simp only [Act.put, List.setIfInBounds_toArray, List.set_cons_zero, List.set_cons_succ, i64_w, i32_w]
  rfl
 refine pure_ (i := 9) (N := some 100) (v := ?_) (a' := ?_) #[tt_,tt_,tt_,tt_,tt_,tt_,tt_,tt_,ff_,tt_,ff_,ff_,ff_,ff_,ff_,ff_,ff_,ff_,ff_,ff_,ff_,ff_,ff_,ff_,ff_,ff_,ff_] rfl rfl (by kernel_rfl) (fun _ _ _ h => h) (Or.inl ⟨by rfl, ?_⟩) ?_ ?_
 rotate_left
 ·intro w'
  go_simp
  with_reducible rfl
 rotate_left
 ·simp only [Act.put, List.setIfInBounds_toArray, List.set_cons_zero, List.set_cons_succ, i64_w, i32_w]
  rfl
 refine pure_ (i := 10) (N := some 101) (v := ?_) (a' := ?_) #[tt_,tt_,tt_,tt_,tt_,tt_,tt_,tt_,ff_,tt_,tt_,ff_,ff_,ff_,ff_,ff_,ff_,ff_,ff_,ff_,ff_,ff_,ff_,ff_,ff_,ff_,ff_] rfl rfl (by kernel_rfl) (fun _ _ _ h => h) (Or.inl ⟨by rfl, ?_⟩) ?_ ?_
 rotate_left
 ·intro w'
  go_simp
  with_reducible rfl
 rotate_left
 ·simp only [Act.put, List.setIfInBounds_toArray, List.set_cons_zero, List.set_cons_succ, i64_w, i32_w]
  rfl
 refine pure_ (i := 11) (N := some 102) (v := ?_) (a' := ?_) #[tt_,tt_,tt_,tt_,tt_,tt_,tt_,tt_,ff_,tt_,tt_,tt_,ff_,ff_,ff_,ff_,ff_,ff_,ff_,ff_,ff_,ff_,ff_,ff_,ff_,ff_,ff_] rfl rfl (by kernel_rfl) (fun _ _ _ h => h) (Or.inl ⟨by rfl, ?_⟩) ?_ ?_
 rotate_left
 ·intro w'
  go_simp
  with_reducible rfl
 rotate_left
 ·simp only [Act.put, List.setIfInBounds_toArray, List.set_cons_zero, List.set_cons_succ, i64_w, i32_w]
  rfl
 refine pure_ (i := 12) (N := some 103) (v := ?_) (a' := ?_) #[tt_,tt_,tt_,tt_,tt_,tt_,tt_,tt_,ff_,tt_,tt_,tt_,tt_,ff_,ff_,ff_,ff_,ff_,ff_,ff_,ff_,ff_,ff_,ff_,ff_,ff_,ff_] rfl rfl (by kernel_rfl) (fun _ _ _ h => h) (Or.inl ⟨by rfl, ?_⟩) ?_ ?_
 rotate_left
 ·intro w'
  go_simp
  with_reducible rfl
 rotate_left
 ·simp only [Act.put, List.setIfInBounds_toArray, List.set_cons_zero, List.set_cons_succ, i64_w, i32_w]
  rfl
 refine pure_ (i := 13) (N := some 104) (v := ?_) (a' := ?_) #[tt_,tt_,tt_,tt_,tt_,tt_,tt_,tt_,ff_,tt_,tt_,tt_,tt_,tt_,ff_,ff_,ff_,ff_,ff_,ff_,ff_,ff_,ff_,ff_,ff_,ff_,ff_] rfl rfl (by kernel_rfl) (fun _ _ _ h => h) (Or.inl ⟨by rfl, ?_⟩) ?_ ?_
 rotate_left
 ·intro w'
  go_simp
  with_reducible rfl
 rotate_left
 ·simp only [Act.put, List.setIfInBounds_toArray, List.set_cons_zero, List.set_cons_succ, i64_w, i32_w]
  rfl
 refine pure_ (i := 16) (N := some 107) (v := ?_) (a' := ?_) #[tt_,tt_,tt_,tt_,tt_,tt_,tt_,tt_,ff_,tt_,tt_,tt_,tt_,tt_,ff_,ff_,tt_,ff_,ff_,ff_,ff_,ff_,ff_,ff_,ff_,ff_,ff_] rfl rfl (by kernel_rfl) (fun _ _ _ h => h) (Or.inl ⟨by rfl, ?_⟩) ?_ ?_
 rotate_left
 ·intro w'
  go_simp
  with_reducible rfl
 rotate_left
 ·simp only [Act.put, List.setIfInBounds_toArray, List.set_cons_zero, List.set_cons_succ, i64_w, i32_w]
  rfl
 refine pure_ (i := 18) (N := some 109) (v := ?_) (a' := ?_) #[tt_,tt_,tt_,tt_,tt_,tt_,tt_,tt_,ff_,tt_,tt_,tt_,tt_,tt_,ff_,ff_,tt_,ff_,tt_,ff_,ff_,ff_,ff_,ff_,ff_,ff_,ff_] rfl rfl (by kernel_rfl) (fun _ _ _ h => h) (Or.inl ⟨by rfl, ?_⟩) ?_ ?_
 rotate_left
 ·intro w'
  go_simp
  with_reducible rfl
 rotate_left
 ·simp only [Act.put, List.setIfInBounds_toArray, List.set_cons_zero, List.set_cons_succ, i64_w, i32_w]
  rfl
 refine pure_ (i := 19) (N := some 110) (v := ?_) (a' := ?_) #[tt_,tt_,tt_,tt_,tt_,tt_,tt_,tt_,ff_,tt_,tt_,tt_,tt_,tt_,ff_,ff_,tt_,ff_,tt_,tt_,ff_,ff_,ff_,ff_,ff_,ff_,ff_] rfl rfl (by kernel_rfl) (fun _ _ _ h => h) (Or.inl ⟨by rfl, ?_⟩) ?_ ?_
 rotate_left
 ·intro w'
  go_simp
  with_reducible rfl
 rotate_left
 ·simp only [Act.put, List.setIfInBounds_toArray, List.set_cons_zero, List.set_cons_succ, i64_w, i32_w]
  rfl
 refine pure_ (i := 20) (N := some 111) (v := ?_) (a' := ?_) #[tt_,tt_,tt_,tt_,tt_,tt_,tt_,tt_,ff_,tt_,tt_,tt_,tt_,tt_,ff_,ff_,tt_,ff_,tt_,tt_,tt_,ff_,ff_,ff_,ff_,ff_,ff_] rfl rfl (by kernel_rfl) (fun _ _ _ h => h) (Or.inl ⟨by rfl, ?_⟩) ?_ ?_
 rotate_left
 ·intro w'
  go_simp
  with_reducible rfl
 rotate_left
 ·simp only [Act.put, List.setIfInBounds_toArray, List.set_cons_zero, List.set_cons_succ, i64_w, i32_w]
  rfl
 refine pure_ (i := 21) (N := some 112) (v := ?_) (a' := ?_) #[tt_,tt_,tt_,tt_,tt_,tt_,tt_,tt_,ff_,tt_,tt_,tt_,tt_,tt_,ff_,ff_,tt_,ff_,tt_,tt_,tt_,tt_,ff_,ff_,ff_,ff_,ff_] rfl rfl (by kernel_rfl) (fun _ _ _ h => h) (Or.inl ⟨by rfl, ?_⟩) ?_ ?_
 rotate_left
 ·intro w'
  go_simp
  with_reducible rfl
 rotate_left
 ·simp only [Act.put, List.setIfInBounds_toArray, List.set_cons_zero, List.set_cons_succ, i64_w, i32_w]
  rfl
 refine pure_ (i := 22) (N := some 113) (v := ?_) (a' := ?_) #[tt_,tt_,tt_,tt_,tt_,tt_,tt_,tt_,ff_,tt_,tt_,tt_,tt_,tt_,ff_,ff_,tt_,ff_,tt_,tt_,tt_,tt_,tt_,ff_,ff_,ff_,ff_] rfl rfl (by kernel_rfl) (fun _ _ _ h => h) (Or.inl ⟨by rfl, ?_⟩) ?_ ?_
 rotate_left
 ·intro w'
  go_simp
  with_reducible rfl
 rotate_left
 ·simp only [Act.put, List.setIfInBounds_toArray, List.set_cons_zero, List.set_cons_succ, i64_w, i32_w]
  rfl
 refine take_ (i := 8) (N := some 99) (v := ?_) (a' := ?_) #[tt_,tt_,tt_,tt_,tt_,tt_,tt_,tt_,tt_,tt_,tt_,tt_,tt_,tt_,ff_,ff_,tt_,ff_,tt_,tt_,tt_,tt_,tt_,ff_,ff_,ff_,ff_] rfl rfl (by kernel_rfl) (fun _ _ _ h => h) (Or.inl ⟨by rfl, ?_⟩) hHeld ?_ ?_
 rotate_left
 ·rintro w' ⟨s0, s1, s2, s3⟩
  go_simp
  with_reducible rfl
 rotate_left
 ·simp only [Act.put, List.setIfInBounds_toArray, List.set_cons_zero, List.set_cons_succ, i64_w, i32_w]
  rfl
 refine pure_ (i := 14) (N := some 105) (v := ?_) (a' := ?_) #[tt_,tt_,tt_,tt_,tt_,tt_,tt_,tt_,tt_,tt_,tt_,tt_,tt_,tt_,tt_,ff_,tt_,ff_,tt_,tt_,tt_,tt_,tt_,ff_,ff_,ff_,ff_] rfl rfl (by kernel_rfl) (fun _ _ _ h => h) (Or.inl ⟨by rfl, ?_⟩) ?_ ?_
 rotate_left
 ·intro w'
  go_simp
  with_reducible rfl
 rotate_left
 ·simp only [Act.put, List.setIfInBounds_toArray, List.set_cons_zero, List.set_cons_succ, i64_w, i32_w]
  rfl
 refine take_ (i := 15) (N := some 106) (v := ?_) (a' := ?_) #[tt_,tt_,tt_,tt_,tt_,tt_,tt_,tt_,tt_,tt_,tt_,tt_,tt_,tt_,tt_,tt_,tt_,ff_,tt_,tt_,tt_,tt_,tt_,ff_,ff_,ff_,ff_] rfl rfl (by kernel_rfl) (fun _ _ _ h => h) (Or.inl ⟨by rfl, ?_⟩) hHeld ?_ ?_
 rotate_left
 ·rintro w' ⟨s0, s1, s2, s3⟩
  go_simp
  with_reducible rfl
 rotate_left
 ·simp only [Act.put, List.setIfInBounds_toArray, List.set_cons_zero, List.set_cons_succ, i64_w, i32_w]
  rfl
 refine take_ (i := 17) (N := some 108) (v := ?_) (a' := ?_) #[tt_,tt_,tt_,tt_,tt_,tt_,tt_,tt_,tt_,tt_,tt_,tt_,tt_,tt_,tt_,tt_,tt_,tt_,tt_,tt_,tt_,tt_,tt_,ff_,ff_,ff_,ff_] rfl rfl (by kernel_rfl) (fun _ _ _ h => h) (Or.inl ⟨by rfl, ?_⟩) hHeld ?_ ?_
 rotate_left
 ·rintro w' ⟨s0, s1, s2, s3⟩
  go_simp
  with_reducible rfl
 rotate_left
 ·simp only [Act.put, List.setIfInBounds_toArray, List.set_cons_zero, List.set_cons_succ, i64_w, i32_w]
  rfl
 refine pure_ (i := 23) (N := some 114) (v := ?_) (a' := ?_) #[tt_,tt_,tt_,tt_,tt_,tt_,tt_,tt_,tt_,tt_,tt_,tt_,tt_,tt_,tt_,tt_,tt_,tt_,tt_,tt_,tt_,tt_,tt_,tt_,ff_,ff_,ff_] rfl rfl (by kernel_rfl) (fun _ _ _ h => h) (Or.inl ⟨by rfl, ?_⟩) ?_ ?_
 rotate_left
 ·intro w'
  go_simp
  with_reducible rfl
 rotate_left
 ·simp only [Act.put, List.setIfInBounds_toArray, List.set_cons_zero, List.set_cons_succ, i64_w, i32_w]
  rfl
 refine take_ (i := 24) (N := some 115) (v := ?_) (a' := ?_) #[tt_,tt_,tt_,tt_,tt_,tt_,tt_,tt_,tt_,tt_,tt_,tt_,tt_,tt_,tt_,tt_,tt_,tt_,tt_,tt_,tt_,tt_,tt_,tt_,tt_,ff_,ff_] rfl rfl (by kernel_rfl) (fun _ _ _ h => h) (Or.inl ⟨by rfl, ?_⟩) hHeld ?_ ?_
 rotate_left
 ·rintro w' ⟨s0, s1, s2, s3⟩
  go_simp
  with_reducible rfl
 rotate_left
 ·simp only [Act.put, List.setIfInBounds_toArray, List.set_cons_zero, List.set_cons_succ, i64_w, i32_w]
  rfl
 refine pure_ (i := 25) (N := some 116) (v := ?_) (a' := ?_) #[tt_,tt_,tt_,tt_,tt_,tt_,tt_,tt_,tt_,tt_,tt_,tt_,tt_,tt_,tt_,tt_,tt_,tt_,tt_,tt_,tt_,tt_,tt_,tt_,tt_,tt_,ff_] rfl rfl (by kernel_rfl) (fun _ _ _ h => h) (Or.inl ⟨by rfl, ?_⟩) ?_ ?_
 rotate_left
 ·intro w'
  go_simp
  with_reducible rfl
 rotate_left
 ·simp only [Act.put, List.setIfInBounds_toArray, List.set_cons_zero, List.set_cons_succ, i64_w, i32_w]
  rfl
 refine pure_ (i := 26) (N := some 117) (v := ?_) (a' := ?_) #[tt_,tt_,tt_,tt_,tt_,tt_,tt_,tt_,tt_,tt_,tt_,tt_,tt_,tt_,tt_,tt_,tt_,tt_,tt_,tt_,tt_,tt_,tt_,tt_,tt_,tt_,tt_] rfl rfl (by kernel_rfl) (fun _ _ _ h => h) (Or.inl ⟨by rfl, ?_⟩) ?_ ?_
 rotate_left
 ·intro w'
  go_simp
  with_reducible rfl
 rotate_left
 ·simp only [Act.put, List.setIfInBounds_toArray, List.set_cons_zero, List.set_cons_succ, i64_w, i32_w]
  rfl
 refine done_ (by kernel_rfl) ?_
 clear hHeld n1 i1 i2
 have p0 := (blk_cell DX_20.out 0).trans rfl
 have p1 := (blk_cell DX_20.out 1).trans rfl
 have p2 := (blk_cell DX_20.out 2).trans rfl
 go_upto_region 11 with (first | ((with_reducible refine gate_store (p := 15) rfl ?_); refine storeP_event rfl rfl rfl gE (W2 : Int) (H2 : Int) Ae ne ce _ _ _ rfl rfl ZE.out ?_; intro w22 hm_ hst_ hbl_; have BL21_2 := Aside0.mk (BL21_1.out.trans (hbl_ _ GGE.out)); have ZE_ := Aside0.mk hm_; have B_22 := Aside0.mk (below_step B_21.out BL21_2.out); have DX_22 := Aside0.mk (blk_below DX_21.out BL21_2.out); have Lx_22 := Aside0.mk (Lx_21.out.below BL21_2.out); have Le_22 := Aside0.mk (Le_21.out.below BL21_2.out); clear DX_21 Lx_21 Le_21; have DE_22 := Aside0.mk (ZE_.out); clear ZE_ ZE BL21_1 BL21_2; clear hm_ hst_ hbl_) | ((with_reducible refine gate_dst (N := 15) rfl ?_); refine box_event ?hg (N := 15) ?hd (cs := #[.int .i64 0, .int .i64 0, .slice none 0 0]) (t := 25) ?hr ?_; (case hd => rfl); (case hg => rfl); (case hr => first | (go_simp; done) | (go_simp; rfl)); intro gE hg_ w21_1 hm_ hb_; have BL21_1 := Aside0.mk (hb_); have ZE := Aside0.mk (hm_); have GGE := Aside0.mk (show w21.heap.size ≤ gE by rw [hg_]; exact Nat.le_refl _); clear hm_ hb_ hg_) | (go_at_call 20; have hkey := B_20; clear hkey; refine (ExpandL HP.out Lx_20.out HS2.out HWW.out HHH.out).mono ?_; rintro e w21 ⟨Ae, ne, ce, rfl, hL, hb⟩; have B_21 := Aside0.mk (below_step B_20.out hb); have DX_21 := Aside0.mk (blk_below DX_20.out hb); have Lx_21 := Aside0.mk (Lx_20.out.below hb); clear DX_20 Lx_20; have Le_21 := Aside0.mk (hL); clear hb hL) | ((with_reducible refine gate_dst (N := 119) rfl ?_); refine loadP_g rfl ?hw gX _ _ _ rfl DX_20.out ?_; (case hw => rfl)))
 clear p0 p1 p2
 have DX_d := Aside0.mk (blk_drew DX_22.out)
 have DE_d := Aside0.mk (blk_drew DE_22.out)
 have Lx_d := Aside0.mk (Lx_22.out.below (below_drew1 (Below.refl _ _)))
 have Le_d := Aside0.mk (Le_22.out.below (below_drew1 (Below.refl _ _)))
 have B_d : Aside0 (Below w.heap.size w w22.drew) := ⟨below_drew1 B_22.out⟩
 clear DX_22 DE_22 Lx_22 Le_22 B_22
 have DX_40 := DX_d
 have DE_40 := DE_d
 have Lx_40 := Lx_d
 have Le_40 := Le_d
 have B_40 := B_d
 clear DX_d DE_d Lx_d Le_d B_d
 have BR_ : Aside0 (Below w22.drew.heap.size w22.drew w22.drew) := ⟨Below.refl _ _⟩
 refine start_ (n := 26) (S := fun w' => w'.cell? ⟨gX, 0, none⟩ = some (.int .i64 (W : Int)) ∧ w'.cell? ⟨gX, 1, none⟩ = some (.int .i64 (H : Int)) ∧ w'.cell? ⟨gX, 2, none⟩ = some (.slice A n cap)) (ds := [24]) #[ff_,ff_,ff_,ff_,ff_,ff_,ff_,ff_,ff_,ff_,ff_,ff_,ff_,ff_,ff_,ff_,ff_,ff_,ff_,ff_,ff_,ff_,ff_,ff_,ff_,ff_] (by kernel_rfl) rfl rfl ⟨(blk_cell DX_40.out 0).trans rfl, (blk_cell DX_40.out 1).trans rfl, (blk_cell DX_40.out 2).trans rfl⟩ (fun hHeld => ?_)
 generalize w22.drew = w40 at *
 refine pure_ (i := 1) (N := some 131) (v := ?_) (a' := ?_) #[ff_,tt_,ff_,ff_,ff_,ff_,ff_,ff_,ff_,ff_,ff_,ff_,ff_,ff_,ff_,ff_,ff_,ff_,ff_,ff_,ff_,ff_,ff_,ff_,ff_,ff_] rfl rfl (by kernel_rfl) (fun _ _ _ h => h) (Or.inl ⟨by rfl, ?_⟩) ?_ ?_
 rotate_left
 ·intro w'
  go_simp
  with_reducible rfl
 rotate_left
 ·simp only [Act.put, List.setIfInBounds_toArray, List.set_cons_zero, List.set_cons_succ, i64_w, i32_w]
  rfl
 refine pure_ (i := 2) (N := some 132) (v := ?_) (a' := ?_) #[ff_,tt_,tt_,ff_,ff_,ff_,ff_,ff_,ff_,ff_,ff_,ff_,ff_,ff_,ff_,ff_,ff_,ff_,ff_,ff_,ff_,ff_,ff_,ff_,ff_,ff_] rfl rfl (by kernel_rfl) (fun _ _ _ h => h) (Or.inl ⟨by rfl, ?_⟩) ?_ ?_
 rotate_left
 ·intro w'
  go_simp
  with_reducible rfl
 rotate_left
 ·simp only [Act.put, List.setIfInBounds_toArray, List.set_cons_zero, List.set_cons_succ, i64_w, i32_w]
  rfl
 refine pure_ (i := 3) (N := some 133) (v := ?_) (a' := ?_) #[ff_,tt_,tt_,tt_,ff_,ff_,ff_,ff_,ff_,ff_,ff_,ff_,ff_,ff_,ff_,ff_,ff_,ff_,ff_,ff_,ff_,ff_,ff_,ff_,ff_,ff_] rfl rfl (by kernel_rfl) (fun _ _ _ h => h) (Or.inl ⟨by rfl, ?_⟩) ?_ ?_
 rotate_left
 ·intro w'
  go_simp
  with_reducible rfl
 rotate_left
 ·simp only [Act.put, List.setIfInBounds_toArray, List.set_cons_zero, List.set_cons_succ, i64_w, i32_w]
  rfl
 refine pure_ (i := 4) (N := some 134) (v := ?_) (a' := ?_) #[ff_,tt_,tt_,tt_,tt_,ff_,ff_,ff_,ff_,ff_,ff_,ff_,ff_,ff_,ff_,ff_,ff_,ff_,ff_,ff_,ff_,ff_,ff_,ff_,ff_,ff_] rfl rfl (by kernel_rfl) (fun _ _ _ h => h) (Or.inl ⟨by rfl, ?_⟩) ?_ ?_
 rotate_left
 ·intro w'
  go_simp
  with_reducible rfl
 rotate_left
 ·simp only [Act.put, List.setIfInBounds_toArray, List.set_cons_zero, List.set_cons_succ, i64_w, i32_w]
  rfl
 refine pure_ (i := 5) (N := some 135) (v := ?_) (a' := ?_) #[ff_,tt_,tt_,tt_,tt_,tt_,ff_,ff_,ff_,ff_,ff_,ff_,ff_,ff_,ff_,ff_,ff_,ff_,ff_,ff_,ff_,ff_,ff_,ff_,ff_,ff_] rfl rfl (by kernel_rfl) (fun _ _ _ h => h) (Or.inl ⟨by rfl, ?_⟩) ?_ ?_
 rotate_left
 ·intro w'
  go_simp
  with_reducible rfl
 rotate_left
 ·simp only [Act.put, List.setIfInBounds_toArray, List.set_cons_zero, List.set_cons_succ, i64_w, i32_w]
  rfl
 refine pure_ (i := 6) (N := some 136) (v := ?_) (a' := ?_) #[ff_,tt_,tt_,tt_,tt_,tt_,tt_,ff_,ff_,ff_,ff_,ff_,ff_,ff_,ff_,ff_,ff_,ff_,ff_,ff_,ff_,ff_,ff_,ff_,ff_,ff_] rfl rfl (by kernel_rfl) (fun _ _ _ h => h) (Or.inl ⟨by rfl, ?_⟩) ?_ ?_
 rotate_left
 ·intro w'
  go_simp
  with_reducible rfl
 rotate_left
 ·simp only [Act.put, List.setIfInBounds_toArray, List.set_cons_zero, List.set_cons_succ, i64_w, i32_w]
  rfl
 refine pure_ (i := 7) (N := some 137) (v := ?_) (a' := ?_) #[ff_,tt_,tt_,tt_,tt_,tt_,tt_,tt_,ff_,ff_,ff_,ff_,ff_,ff_,ff_,ff_,ff_,ff_,ff_,ff_,ff_,ff_,ff_,ff_,ff_,ff_] rfl rfl (by kernel_rfl) (fun _ _ _ h => h) (Or.inl ⟨by rfl, ?_⟩) ?_ ?_
 rotate_left
 ·intro w'
  go_simp
  with_reducible rfl
 rotate_left
 ·simp only [Act.put, List.setIfInBounds_toArray, List.set_cons_zero, List.set_cons_succ, i64_w, i32_w]
  rfl
 refine pure_ (i := 8) (N := some 138) (v := ?_) (a' := ?_) #[ff_,tt_,tt_,tt_,tt_,tt_,tt_,tt_,tt_,ff_,ff_,ff_,ff_,ff_,ff_,ff_,ff_,ff_,ff_,ff_,ff_,ff_,ff_,ff_,ff_,ff_] rfl rfl (by kernel_rfl) (fun _ _ _ h => h) (Or.inl ⟨by rfl, ?_⟩) ?_ ?_
 rotate_left
 ·intro w'
  go_simp
  with_reducible rfl
 rotate_left
 ·simp only [Act.put, List.setIfInBounds_toArray, List.set_cons_zero, List.set_cons_succ, i64_w, i32_w]
  rfl
 refine pure_ (i := 9) (N := some 139) (v := ?_) (a' := ?_) #[ff_,tt_,tt_,tt_,tt_,tt_,tt_,tt_,tt_,tt_,ff_,ff_,ff_,ff_,ff_,ff_,ff_,ff_,ff_,ff_,ff_,ff_,ff_,ff_,ff_,ff_] rfl rfl (by kernel_rfl) (fun _ _ _ h => h) (Or.inl ⟨by rfl, ?_⟩) ?_ ?_
 rotate_left
 ·intro w'
  go_simp
  with_reducible rfl
 rotate_left
 ·simp only [Act.put, List.setIfInBounds_toArray, List.set_cons_zero, List.set_cons_succ, i64_w, i32_w]
  rfl
 refine pure_ (i := 10) (N := some 140) (v := ?_) (a' := ?_) #[ff_,tt_,tt_,tt_,tt_,tt_,tt_,tt_,tt_,tt_,tt_,ff_,ff_,ff_,ff_,ff_,ff_,ff_,ff_,ff_,ff_,ff_,ff_,ff_,ff_,ff_] rfl rfl (by kernel_rfl) (fun _ _ _ h => h) (Or.inl ⟨by rfl, ?_⟩) ?_ ?_
 rotate_left
 ·intro w'
  go_simp
  with_reducible rfl
 rotate_left
 ·simp only [Act.put, List.setIfInBounds_toArray, List.set_cons_zero, List.set_cons_succ, i64_w, i32_w]
  rfl
 refine pure_ (i := 11) (N := some 141) (v := ?_) (a' := ?_) #[ff_,tt_,tt_,tt_,tt_,tt_,tt_,tt_,tt_,tt_,tt_,tt_,ff_,ff_,ff_,ff_,ff_,ff_,ff_,ff_,ff_,ff_,ff_,ff_,ff_,ff_] rfl rfl (by kernel_rfl) (fun _ _ _ h => h) (Or.inl ⟨by rfl, ?_⟩) ?_ ?_
 rotate_left
 ·intro w'
  go_simp
  with_reducible rfl
 rotate_left
 ·simp only [Act.put, List.setIfInBounds_toArray, List.set_cons_zero, List.set_cons_succ, i64_w, i32_w]
  rfl
 refine pure_ (i := 13) (N := some 143) (v := ?_) (a' := ?_) #[ff_,tt_,tt_,tt_,tt_,tt_,tt_,tt_,tt_,tt_,tt_,tt_,ff_,tt_,ff_,ff_,ff_,ff_,ff_,ff_,ff_,ff_,ff_,ff_,ff_,ff_] rfl rfl (by kernel_rfl) (fun _ _ _ h => h) (Or.inl ⟨by rfl, ?_⟩) ?_ ?_
 rotate_left
 ·intro w'
  go_simp
  with_reducible rfl
 rotate_left
 ·simp only [Act.put, List.setIfInBounds_toArray, List.set_cons_zero, List.set_cons_succ, i64_w, i32_w]
  rfl
 refine pure_ (i := 16) (N := some 146) (v := ?_) (a' := ?_) #[ff_,tt_,tt_,tt_,tt_,tt_,tt_,tt_,tt_,tt_,tt_,tt_,ff_,tt_,ff_,ff_,tt_,ff_,ff_,ff_,ff_,ff_,ff_,ff_,ff_,ff_] rfl rfl (by kernel_rfl) (fun _ _ _ h => h) (Or.inl ⟨by rfl, ?_⟩) ?_ ?_
 rotate_left
 ·intro w'
  go_simp
  with_reducible rfl
 rotate_left
 ·simp only [Act.put, List.setIfInBounds_toArray, List.set_cons_zero, List.set_cons_succ, i64_w, i32_w]
  rfl
 refine take_ (i := 0) (N := some 130) (v := ?_) (a' := ?_) #[tt_,tt_,tt_,tt_,tt_,tt_,tt_,tt_,tt_,tt_,tt_,tt_,ff_,tt_,ff_,ff_,tt_,ff_,ff_,ff_,ff_,ff_,ff_,ff_,ff_,ff_] rfl rfl (by kernel_rfl) (fun _ _ _ h => h) (Or.inl ⟨by rfl, ?_⟩) hHeld ?_ ?_
 rotate_left
 ·rintro w' ⟨s0, s1, s2⟩
  go_simp
  with_reducible rfl
 rotate_left
 ·simp only [Act.put, List.setIfInBounds_toArray, List.set_cons_zero, List.set_cons_succ, i64_w, i32_w]
  rfl
 refine take_ (i := 14) (N := some 144) (v := ?_) (a' := ?_) #[tt_,tt_,tt_,tt_,tt_,tt_,tt_,tt_,tt_,tt_,tt_,tt_,ff_,tt_,tt_,ff_,tt_,ff_,ff_,ff_,ff_,ff_,ff_,ff_,ff_,ff_] rfl rfl (by kernel_rfl) (fun _ _ _ h => h) (Or.inl ⟨by rfl, ?_⟩) hHeld ?_ ?_
 rotate_left
 ·rintro w' ⟨s0, s1, s2⟩
  go_simp
  with_reducible rfl
 rotate_left
 ·simp only [Act.put, List.setIfInBounds_toArray, List.set_cons_zero, List.set_cons_succ, i64_w, i32_w]
  rfl
 refine pure_ (i := 15) (N := some 145) (v := ?_) (a' := ?_) #[tt_,tt_,tt_,tt_,tt_,tt_,tt_,tt_,tt_,tt_,tt_,tt_,ff_,tt_,tt_,tt_,tt_,ff_,ff_,ff_,ff_,ff_,ff_,ff_,ff_,ff_] rfl rfl (by kernel_rfl) (fun _ _ _ h => h) (Or.inl ⟨by rfl, ?_⟩) ?_ ?_
 rotate_left
 ·intro w'
  go_simp
  with_reducible rfl
 rotate_left
 ·simp only [Act.put, List.setIfInBounds_toArray, List.set_cons_zero, List.set_cons_succ, i64_w, i32_w]
  rfl
 refine take_ (i := 17) (N := some 147) (v := ?_) (a' := ?_) #[tt_,tt_,tt_,tt_,tt_,tt_,tt_,tt_,tt_,tt_,tt_,tt_,ff_,tt_,tt_,tt_,tt_,tt_,ff_,ff_,ff_,ff_,ff_,ff_,ff_,ff_] rfl rfl (by kernel_rfl) (fun _ _ _ h => h) (Or.inl ⟨by rfl, ?_⟩) hHeld ?_ ?_
 rotate_left
 ·rintro w' ⟨s0, s1, s2⟩
  go_simp
  with_reducible rfl
 rotate_left
 ·simp only [Act.put, List.setIfInBounds_toArray, List.set_cons_zero, List.set_cons_succ, i64_w, i32_w]
  rfl
 refine pure_ (i := 18) (N := some 148) (v := ?_) (a' := ?_) #[tt_,tt_,tt_,tt_,tt_,tt_,tt_,tt_,tt_,tt_,tt_,tt_,ff_,tt_,tt_,tt_,tt_,tt_,tt_,ff_,ff_,ff_,ff_,ff_,ff_,ff_] rfl rfl (by kernel_rfl) (fun _ _ _ h => h) (Or.inl ⟨by rfl, ?_⟩) ?_ ?_
 rotate_left
 ·intro w'
  go_simp
  with_reducible rfl
 rotate_left
 ·simp only [Act.put, List.setIfInBounds_toArray, List.set_cons_zero, List.set_cons_succ, i64_w, i32_w]
  rfl
 refine join_ (σ := List Nat × Option Addr × Nat × Nat × Option Addr × Nat × Nat × Nat) 2 #[tt_,tt_,tt_,tt_,tt_,tt_,tt_,tt_,tt_,tt_,tt_,tt_,tt_,tt_,tt_,tt_,tt_,tt_,tt_,tt_,tt_,tt_,tt_,tt_,ff_,ff_] (fun q_ => [(142, .agg #[.int .i64 (W : Int), .int .i64 (H : Int), .slice q_.2.1 q_.2.2.1 q_.2.2.2.1]), (149, .tuple #[.agg #[.int .i64 (W2 : Int), .int .i64 (H2 : Int), .slice q_.2.2.2.2.1 q_.2.2.2.2.2.1 q_.2.2.2.2.2.2.1], .int .i64 0]), (129, .tuple #[.agg #[.int .i64 (W2 : Int), .int .i64 (H2 : Int), .slice q_.2.2.2.2.1 q_.2.2.2.2.2.1 q_.2.2.2.2.2.2.1], .int .i64 0]), (150, .agg #[.int .i64 (W2 : Int), .int .i64 (H2 : Int), .slice q_.2.2.2.2.1 q_.2.2.2.2.2.1 q_.2.2.2.2.2.2.1]), (151, .int .i64 0), (17, .pointer (some ⟨q_.2.2.2.2.2.2.2, 0, none⟩))]) (fun q_ w' => (Pl.mk W H q_.1).ok ∧ Agree W H q_.1 xs ((x2 : Int) - 1) ((hxc : Int) + 1) ((y2 : Int) - 1) ((hyc : Int) + 1) ∧ (nat .u32).R 50 w' w40.heap.size (fun _ => True) (.slice q_.2.2.2.2.1 q_.2.2.2.2.2.1 q_.2.2.2.2.2.2.1) (expS W H W2 H2 q_.1) ∧ (expS W H W2 H2 q_.1).length = q_.2.2.2.2.2.1 ∧ w'.heap[q_.2.2.2.2.2.2.2]? = some (.cells #[.int .i64 0, .int .i64 0, .slice none 0 0] 25 (0, 0)) ∧ w40.heap.size ≤ q_.2.2.2.2.2.2.2 ∧ Below w40.heap.size w40 w') ?_ ?_
 rotate_left
 ·intro hCont
  refine two_ (i := 12) (j := 23) (Ni := some 142) (Nj := some 17) #[tt_,tt_,tt_,tt_,tt_,tt_,tt_,tt_,tt_,tt_,tt_,tt_,tt_,tt_,tt_,tt_,tt_,tt_,tt_,ff_,ff_,ff_,ff_,ff_,ff_,ff_] #[tt_,tt_,tt_,tt_,tt_,tt_,tt_,tt_,tt_,tt_,tt_,tt_,ff_,tt_,tt_,tt_,tt_,tt_,tt_,ff_,ff_,ff_,ff_,tt_,ff_,ff_] rfl rfl rfl rfl (by kernel_rfl) (by decide) (by decide) (fun K hK => ?_) (fun K hK => ?_)
  ·skip
   refine goes_ Try.func30 (by kernel_rfl) rfl #[.agg #[.int .i64 (W : Int), .int .i64 (H : Int), .slice A n cap], .int .u32 (s : Int), .int .i64 (x2 : Int), .int .i64 (y2 : Int), .int .i64 (hxc : Int), .int .i64 (hyc : Int), .int .i64 1] (by rfl) rfl rfl (by (try simp only [List.map_toArray, List.map_cons, List.map_nil]); rfl) ?_
   refine (near_calls W H xs A n cap s (x2 : Int) (y2 : Int) (hxc : Int) (hyc : Int) 1 _ HP.out (Lx_40.out.below BR_.out) HS.out J1.out J2.out J3.out J4.out J5.out).mono ?_
   rintro e w_12 ⟨A8, n8, c8, q2, rfl, hL, hq, hg, hb⟩
   refine ⟨_, rfl, ?_⟩
   have BR_12 := Aside0.mk (below_step BR_.out hb)
   have LQ_12 := Aside0.mk (hL)
   have HQ2 := Aside0.mk (hq)
   have HG2 := Aside0.mk (hg)
   clear hL hq hg hb
   refine hK.out _ _ ⟨(blk_cell (blk_below DX_40.out BR_12.out) 0).trans rfl, (blk_cell (blk_below DX_40.out BR_12.out) 1).trans rfl, (blk_cell (blk_below DX_40.out BR_12.out) 2).trans rfl⟩ (fun hHeld => ?_)
   clear hK K
   refine norm_ (a' := ?_) ?_ ?_
   rotate_left
   ·show Act.put _ (some 142) _ = _
    simp only [Act.put, List.setIfInBounds_toArray, List.set_cons_zero, List.set_cons_succ, i64_w, i32_w]
    rfl
   refine two_ (i := 19) (j := 23) (Ni := some 149) (Nj := some 17) #[tt_,tt_,tt_,tt_,tt_,tt_,tt_,tt_,tt_,tt_,tt_,tt_,tt_,tt_,tt_,tt_,tt_,tt_,tt_,tt_,ff_,ff_,ff_,ff_,ff_,ff_] #[tt_,tt_,tt_,tt_,tt_,tt_,tt_,tt_,tt_,tt_,tt_,tt_,tt_,tt_,tt_,tt_,tt_,tt_,tt_,ff_,ff_,ff_,ff_,tt_,ff_,ff_] rfl rfl rfl rfl (by kernel_rfl) (by decide) (by decide) (fun K hK => ?_) (fun K hK => ?_)
   ·skip
    refine goes_ Try.func20 (by kernel_rfl) rfl #[.agg #[.int .i64 (W : Int), .int .i64 (H : Int), .slice A8 n8 c8], .int .i64 (W2 : Int), .int .i64 (H2 : Int)] (by rfl) rfl rfl (by (try simp only [List.map_toArray, List.map_cons, List.map_nil]); rfl) ?_
    refine (Expand_ok W H q2 A8 n8 c8 W2 H2 _ HQ2.out LQ_12.out.2.2 HS2.out HWW.out HHH.out LQ_12.out.1 LQ_12.out.2.1).mono ?_
    rintro e w_12_19 ⟨v9, rfl, hR, hb⟩
    refine ⟨_, rfl, ?_⟩
    obtain ⟨A9, c9, hv9⟩ := Kd.R_slice hR
    obtain ⟨n9, hn9⟩ : ∃ n9, (expS W H W2 H2 q2).length = n9 := ⟨_, rfl⟩
    rw [hn9] at hv9
    subst hv9
    have HN9 := Aside0.mk (hn9)
    have BR_12_19 := Aside0.mk (below_step BR_12.out hb)
    have V_12_19 := Aside0.mk (Kd.R_lower hR BR_12.out.size)
    clear hR hn9 hb
    refine hK.out _ _ ⟨(blk_cell (blk_below DX_40.out BR_12_19.out) 0).trans rfl, (blk_cell (blk_below DX_40.out BR_12_19.out) 1).trans rfl, (blk_cell (blk_below DX_40.out BR_12_19.out) 2).trans rfl⟩ (fun hHeld => ?_)
    clear hK K
    refine norm_ (a' := ?_) ?_ ?_
    rotate_left
    ·show Act.put _ (some 149) _ = _
     simp only [Act.put, List.setIfInBounds_toArray, List.set_cons_zero, List.set_cons_succ, i64_w, i32_w]
     rfl
    refine pure_ (i := 20) (N := some 129) (v := ?_) (a' := ?_) #[tt_,tt_,tt_,tt_,tt_,tt_,tt_,tt_,tt_,tt_,tt_,tt_,tt_,tt_,tt_,tt_,tt_,tt_,tt_,tt_,tt_,ff_,ff_,ff_,ff_,ff_] rfl rfl (by kernel_rfl) (fun _ _ _ h => h) (Or.inl ⟨by rfl, ?_⟩) ?_ ?_
    rotate_left
    ·intro w'
     go_simp
     with_reducible rfl
    rotate_left
    ·simp only [Act.put, List.setIfInBounds_toArray, List.set_cons_zero, List.set_cons_succ, i64_w, i32_w]
     rfl
    refine pure_ (i := 21) (N := some 150) (v := ?_) (a' := ?_) #[tt_,tt_,tt_,tt_,tt_,tt_,tt_,tt_,tt_,tt_,tt_,tt_,tt_,tt_,tt_,tt_,tt_,tt_,tt_,tt_,tt_,tt_,ff_,ff_,ff_,ff_] rfl rfl (by kernel_rfl) (fun _ _ _ h => h) (Or.inl ⟨by rfl, ?_⟩) ?_ ?_
    rotate_left
    ·intro w'
     go_simp
     with_reducible rfl
    rotate_left
    ·simp only [Act.put, List.setIfInBounds_toArray, List.set_cons_zero, List.set_cons_succ, i64_w, i32_w]
     rfl
    refine pure_ (i := 22) (N := some 151) (v := ?_) (a' := ?_) #[tt_,tt_,tt_,tt_,tt_,tt_,tt_,tt_,tt_,tt_,tt_,tt_,tt_,tt_,tt_,tt_,tt_,tt_,tt_,tt_,tt_,tt_,tt_,ff_,ff_,ff_] rfl rfl (by kernel_rfl) (fun _ _ _ h => h) (Or.inl ⟨by rfl, ?_⟩) ?_ ?_
    rotate_left
    ·intro w'
     go_simp
     with_reducible rfl
    rotate_left
    ·simp only [Act.put, List.setIfInBounds_toArray, List.set_cons_zero, List.set_cons_succ, i64_w, i32_w]
     rfl
    refine one_ (i := 23) (N := some 17) #[tt_,tt_,tt_,tt_,tt_,tt_,tt_,tt_,tt_,tt_,tt_,tt_,tt_,tt_,tt_,tt_,tt_,tt_,tt_,tt_,tt_,tt_,tt_,tt_,ff_,ff_] rfl rfl (by kernel_rfl) (by decide) (fun K hK => ?_)
    refine alloc_step (cs := #[.int .i64 0, .int .i64 0, .slice none 0 0]) (t := 25) (by rfl) rfl (by first | (go_simp; done) | (go_simp; rfl)) ?_
    intro g17 hg17
    have BR_12_19_23 := Aside0.mk (below_alloc BR_12_19.out (.cells #[.int .i64 0, .int .i64 0, .slice none 0 0] 25 (0, 0)))
    have Z_12_19_23 := Aside0.mk (blk_new w_12_19 (.cells #[.int .i64 0, .int .i64 0, .slice none 0 0] 25 (0, 0)))
    rw [← hg17] at Z_12_19_23
    have GE := Aside0.mk (show w40.heap.size ≤ g17 by rw [hg17]; exact below_size BR_12_19.out)
    have V_12_19_23 := Aside0.mk (Kd.R_below V_12_19.out (below_alloc (Below.refl _ w_12_19) (.cells #[.int .i64 0, .int .i64 0, .slice none 0 0] 25 (0, 0))))
    clear hg17
    generalize w_12_19.alloc (.cells #[.int .i64 0, .int .i64 0, .slice none 0 0] 25 (0, 0)) = w_12_19_23 at *
    refine hK.out _ _ ⟨(blk_cell (blk_below DX_40.out BR_12_19_23.out) 0).trans rfl, (blk_cell (blk_below DX_40.out BR_12_19_23.out) 1).trans rfl, (blk_cell (blk_below DX_40.out BR_12_19_23.out) 2).trans rfl⟩ (fun hHeld => ?_)
    clear hK K
    refine norm_ (a' := ?_) ?_ ?_
    rotate_left
    ·show Act.put _ (some 17) _ = _
     simp only [Act.put, List.setIfInBounds_toArray, List.set_cons_zero, List.set_cons_succ, i64_w, i32_w]
     rfl
    exact norm_ (by rfl) (hCont (q2, A8, n8, c8, A9, n9, c9, g17) _ ⟨HQ2.out, HG2.out, V_12_19_23.out, HN9.out, Z_12_19_23.out, GE.out, BR_12_19_23.out⟩)
   ·skip
    refine alloc_step (cs := #[.int .i64 0, .int .i64 0, .slice none 0 0]) (t := 25) (by rfl) rfl (by first | (go_simp; done) | (go_simp; rfl)) ?_
    intro g17 hg17
    have BR_12_23 := Aside0.mk (below_alloc BR_12.out (.cells #[.int .i64 0, .int .i64 0, .slice none 0 0] 25 (0, 0)))
    have Z_12_23 := Aside0.mk (blk_new w_12 (.cells #[.int .i64 0, .int .i64 0, .slice none 0 0] 25 (0, 0)))
    rw [← hg17] at Z_12_23
    have GE := Aside0.mk (show w40.heap.size ≤ g17 by rw [hg17]; exact below_size BR_12.out)
    have LQ_12_23 := Aside0.mk (LQ_12.out.below (below_alloc (Below.refl _ w_12) (.cells #[.int .i64 0, .int .i64 0, .slice none 0 0] 25 (0, 0))))
    clear hg17
    generalize w_12.alloc (.cells #[.int .i64 0, .int .i64 0, .slice none 0 0] 25 (0, 0)) = w_12_23 at *
    refine hK.out _ _ ⟨(blk_cell (blk_below DX_40.out BR_12_23.out) 0).trans rfl, (blk_cell (blk_below DX_40.out BR_12_23.out) 1).trans rfl, (blk_cell (blk_below DX_40.out BR_12_23.out) 2).trans rfl⟩ (fun hHeld => ?_)
    clear hK K
    refine norm_ (a' := ?_) ?_ ?_
    rotate_left
    ·show Act.put _ (some 17) _ = _
     simp only [Act.put, List.setIfInBounds_toArray, List.set_cons_zero, List.set_cons_succ, i64_w, i32_w]
     rfl
    refine one_ (i := 19) (N := some 149) #[tt_,tt_,tt_,tt_,tt_,tt_,tt_,tt_,tt_,tt_,tt_,tt_,tt_,tt_,tt_,tt_,tt_,tt_,tt_,tt_,ff_,ff_,ff_,tt_,ff_,ff_] rfl rfl (by kernel_rfl) (by decide) (fun K hK => ?_)
    refine goes_ Try.func20 (by kernel_rfl) rfl #[.agg #[.int .i64 (W : Int), .int .i64 (H : Int), .slice A8 n8 c8], .int .i64 (W2 : Int), .int .i64 (H2 : Int)] (by rfl) rfl rfl (by (try simp only [List.map_toArray, List.map_cons, List.map_nil]); rfl) ?_
    refine (Expand_ok W H q2 A8 n8 c8 W2 H2 _ HQ2.out LQ_12_23.out.2.2 HS2.out HWW.out HHH.out LQ_12_23.out.1 LQ_12_23.out.2.1).mono ?_
    rintro e w_12_23_19 ⟨v9, rfl, hR, hb⟩
    refine ⟨_, rfl, ?_⟩
    obtain ⟨A9, c9, hv9⟩ := Kd.R_slice hR
    obtain ⟨n9, hn9⟩ : ∃ n9, (expS W H W2 H2 q2).length = n9 := ⟨_, rfl⟩
    rw [hn9] at hv9
    subst hv9
    have HN9 := Aside0.mk (hn9)
    have BR_12_23_19 := Aside0.mk (below_step BR_12_23.out hb)
    have V_12_23_19 := Aside0.mk (Kd.R_lower hR BR_12_23.out.size)
    have Z_12_23_19 := Aside0.mk (blk_below Z_12_23.out hb)
    clear hR hn9 hb
    refine hK.out _ _ ⟨(blk_cell (blk_below DX_40.out BR_12_23_19.out) 0).trans rfl, (blk_cell (blk_below DX_40.out BR_12_23_19.out) 1).trans rfl, (blk_cell (blk_below DX_40.out BR_12_23_19.out) 2).trans rfl⟩ (fun hHeld => ?_)
    clear hK K
    refine norm_ (a' := ?_) ?_ ?_
    rotate_left
    ·show Act.put _ (some 149) _ = _
     simp only [Act.put, List.setIfInBounds_toArray, List.set_cons_zero, List.set_cons_succ, i64_w, i32_w]
     rfl
    refine pure_ (i := 20) (N := some 129) (v := ?_) (a' := ?_) #[tt_,tt_,tt_,tt_,tt_,tt_,tt_,tt_,tt_,tt_,tt_,tt_,tt_,tt_,tt_,tt_,tt_,tt_,tt_,tt_,tt_,ff_,ff_,tt_,ff_,ff_] rfl rfl (by kernel_rfl) (fun _ _ _ h => h) (Or.inl ⟨by rfl, ?_⟩) ?_ ?_
    rotate_left
    ·intro w'
     go_simp
     with_reducible rfl
    rotate_left
    ·simp only [Act.put, List.setIfInBounds_toArray, List.set_cons_zero, List.set_cons_succ, i64_w, i32_w]
     rfl
    refine pure_ (i := 21) (N := some 150) (v := ?_) (a' := ?_) #[tt_,tt_,tt_,tt_,tt_,tt_,tt_,tt_,tt_,tt_,tt_,tt_,tt_,tt_,tt_,tt_,tt_,tt_,tt_,tt_,tt_,tt_,ff_,tt_,ff_,ff_] rfl rfl (by kernel_rfl) (fun _ _ _ h => h) (Or.inl ⟨by rfl, ?_⟩) ?_ ?_
    rotate_left
    ·intro w'
     go_simp
     with_reducible rfl
    rotate_left
    ·simp only [Act.put, List.setIfInBounds_toArray, List.set_cons_zero, List.set_cons_succ, i64_w, i32_w]
     rfl
    refine pure_ (i := 22) (N := some 151) (v := ?_) (a' := ?_) #[tt_,tt_,tt_,tt_,tt_,tt_,tt_,tt_,tt_,tt_,tt_,tt_,tt_,tt_,tt_,tt_,tt_,tt_,tt_,tt_,tt_,tt_,tt_,tt_,ff_,ff_] rfl rfl (by kernel_rfl) (fun _ _ _ h => h) (Or.inl ⟨by rfl, ?_⟩) ?_ ?_
    rotate_left
    ·intro w'
     go_simp
     with_reducible rfl
    rotate_left
    ·simp only [Act.put, List.setIfInBounds_toArray, List.set_cons_zero, List.set_cons_succ, i64_w, i32_w]
     rfl
    exact norm_ (by rfl) (hCont (q2, A8, n8, c8, A9, n9, c9, g17) _ ⟨HQ2.out, HG2.out, V_12_23_19.out, HN9.out, Z_12_23_19.out, GE.out, BR_12_23_19.out⟩)
  ·skip
   refine alloc_step (cs := #[.int .i64 0, .int .i64 0, .slice none 0 0]) (t := 25) (by rfl) rfl (by first | (go_simp; done) | (go_simp; rfl)) ?_
   intro g17 hg17
   have BR_23 := Aside0.mk (below_alloc BR_.out (.cells #[.int .i64 0, .int .i64 0, .slice none 0 0] 25 (0, 0)))
   have Z_23 := Aside0.mk (blk_new w40 (.cells #[.int .i64 0, .int .i64 0, .slice none 0 0] 25 (0, 0)))
   rw [← hg17] at Z_23
   have GE := Aside0.mk (show w40.heap.size ≤ g17 by rw [hg17]; exact below_size BR_.out)
   clear hg17
   generalize w40.alloc (.cells #[.int .i64 0, .int .i64 0, .slice none 0 0] 25 (0, 0)) = w_23 at *
   refine hK.out _ _ ⟨(blk_cell (blk_below DX_40.out BR_23.out) 0).trans rfl, (blk_cell (blk_below DX_40.out BR_23.out) 1).trans rfl, (blk_cell (blk_below DX_40.out BR_23.out) 2).trans rfl⟩ (fun hHeld => ?_)
   clear hK K
   refine norm_ (a' := ?_) ?_ ?_
   rotate_left
   ·show Act.put _ (some 17) _ = _
    simp only [Act.put, List.setIfInBounds_toArray, List.set_cons_zero, List.set_cons_succ, i64_w, i32_w]
    rfl
   refine one_ (i := 12) (N := some 142) #[tt_,tt_,tt_,tt_,tt_,tt_,tt_,tt_,tt_,tt_,tt_,tt_,tt_,tt_,tt_,tt_,tt_,tt_,tt_,ff_,ff_,ff_,ff_,tt_,ff_,ff_] rfl rfl (by kernel_rfl) (by decide) (fun K hK => ?_)
   refine goes_ Try.func30 (by kernel_rfl) rfl #[.agg #[.int .i64 (W : Int), .int .i64 (H : Int), .slice A n cap], .int .u32 (s : Int), .int .i64 (x2 : Int), .int .i64 (y2 : Int), .int .i64 (hxc : Int), .int .i64 (hyc : Int), .int .i64 1] (by rfl) rfl rfl (by (try simp only [List.map_toArray, List.map_cons, List.map_nil]); rfl) ?_
   refine (near_calls W H xs A n cap s (x2 : Int) (y2 : Int) (hxc : Int) (hyc : Int) 1 _ HP.out (Lx_40.out.below BR_23.out) HS.out J1.out J2.out J3.out J4.out J5.out).mono ?_
   rintro e w_23_12 ⟨A8, n8, c8, q2, rfl, hL, hq, hg, hb⟩
   refine ⟨_, rfl, ?_⟩
   have BR_23_12 := Aside0.mk (below_step BR_23.out hb)
   have LQ_23_12 := Aside0.mk (hL)
   have HQ2 := Aside0.mk (hq)
   have HG2 := Aside0.mk (hg)
   have Z_23_12 := Aside0.mk (blk_below Z_23.out hb)
   clear hL hq hg hb
   refine hK.out _ _ ⟨(blk_cell (blk_below DX_40.out BR_23_12.out) 0).trans rfl, (blk_cell (blk_below DX_40.out BR_23_12.out) 1).trans rfl, (blk_cell (blk_below DX_40.out BR_23_12.out) 2).trans rfl⟩ (fun hHeld => ?_)
   clear hK K
   refine norm_ (a' := ?_) ?_ ?_
   rotate_left
   ·show Act.put _ (some 142) _ = _
    simp only [Act.put, List.setIfInBounds_toArray, List.set_cons_zero, List.set_cons_succ, i64_w, i32_w]
    rfl
   refine one_ (i := 19) (N := some 149) #[tt_,tt_,tt_,tt_,tt_,tt_,tt_,tt_,tt_,tt_,tt_,tt_,tt_,tt_,tt_,tt_,tt_,tt_,tt_,tt_,ff_,ff_,ff_,tt_,ff_,ff_] rfl rfl (by kernel_rfl) (by decide) (fun K hK => ?_)
   refine goes_ Try.func20 (by kernel_rfl) rfl #[.agg #[.int .i64 (W : Int), .int .i64 (H : Int), .slice A8 n8 c8], .int .i64 (W2 : Int), .int .i64 (H2 : Int)] (by rfl) rfl rfl (by (try simp only [List.map_toArray, List.map_cons, List.map_nil]); rfl) ?_
   refine (Expand_ok W H q2 A8 n8 c8 W2 H2 _ HQ2.out LQ_23_12.out.2.2 HS2.out HWW.out HHH.out LQ_23_12.out.1 LQ_23_12.out.2.1).mono ?_
   rintro e w_23_12_19 ⟨v9, rfl, hR, hb⟩
   refine ⟨_, rfl, ?_⟩
   obtain ⟨A9, c9, hv9⟩ := Kd.R_slice hR
   obtain ⟨n9, hn9⟩ : ∃ n9, (expS W H W2 H2 q2).length = n9 := ⟨_, rfl⟩
   rw [hn9] at hv9
   subst hv9
   have HN9 := Aside0.mk (hn9)
   have BR_23_12_19 := Aside0.mk (below_step BR_23_12.out hb)
   have V_23_12_19 := Aside0.mk (Kd.R_lower hR BR_23_12.out.size)
   have Z_23_12_19 := Aside0.mk (blk_below Z_23_12.out hb)
   clear hR hn9 hb
   refine hK.out _ _ ⟨(blk_cell (blk_below DX_40.out BR_23_12_19.out) 0).trans rfl, (blk_cell (blk_below DX_40.out BR_23_12_19.out) 1).trans rfl, (blk_cell (blk_below DX_40.out BR_23_12_19.out) 2).trans rfl⟩ (fun hHeld => ?_)
   clear hK K
   refine norm_ (a' := ?_) ?_ ?_
   rotate_left
   ·show Act.put _ (some 149) _ = _
    simp only [Act.put, List.setIfInBounds_toArray, List.set_cons_zero, List.set_cons_succ, i64_w, i32_w]
    rfl
   refine pure_ (i := 20) (N := some 129) (v := ?_) (a' := ?_) #[tt_,tt_,tt_,tt_,tt_,tt_,tt_,tt_,tt_,tt_,tt_,tt_,tt_,tt_,tt_,tt_,tt_,tt_,tt_,tt_,tt_,ff_,ff_,tt_,ff_,ff_] rfl rfl (by kernel_rfl) (fun _ _ _ h => h) (Or.inl ⟨by rfl, ?_⟩) ?_ ?_
   rotate_left
   ·intro w'
    go_simp
    with_reducible rfl
   rotate_left
   ·simp only [Act.put, List.setIfInBounds_toArray, List.set_cons_zero, List.set_cons_succ, i64_w, i32_w]
    rfl
   refine pure_ (i := 21) (N := some 150) (v := ?_) (a' := ?_) #[tt_,tt_,tt_,tt_,tt_,tt_,tt_,tt_,tt_,tt_,tt_,tt_,tt_,tt_,tt_,tt_,tt_,tt_,tt_,tt_,tt_,tt_,ff_,tt_,ff_,ff_] rfl rfl (by kernel_rfl) (fun _ _ _ h => h) (Or.inl ⟨by rfl, ?_⟩) ?_ ?_
   rotate_left
   ·intro w'
    go_simp
    with_reducible rfl
   rotate_left
   ·simp only [Act.put, List.setIfInBounds_toArray, List.set_cons_zero, List.set_cons_succ, i64_w, i32_w]
    rfl
   refine pure_ (i := 22) (N := some 151) (v := ?_) (a' := ?_) #[tt_,tt_,tt_,tt_,tt_,tt_,tt_,tt_,tt_,tt_,tt_,tt_,tt_,tt_,tt_,tt_,tt_,tt_,tt_,tt_,tt_,tt_,tt_,tt_,ff_,ff_] rfl rfl (by kernel_rfl) (fun _ _ _ h => h) (Or.inl ⟨by rfl, ?_⟩) ?_ ?_
   rotate_left
   ·intro w'
    go_simp
    with_reducible rfl
   rotate_left
   ·simp only [Act.put, List.setIfInBounds_toArray, List.set_cons_zero, List.set_cons_succ, i64_w, i32_w]
    rfl
   exact norm_ (by rfl) (hCont (q2, A8, n8, c8, A9, n9, c9, g17) _ ⟨HQ2.out, HG2.out, V_23_12_19.out, HN9.out, Z_23_12_19.out, GE.out, BR_23_12_19.out⟩)
 rintro ⟨q2, A8, n8, c8, A9, n9, c9, g17⟩ w50 ⟨hq, hg, hV, hn9, hZ, hge, hB⟩
 simp only at hq hg hV hn9 hZ hge
 have HQ2 := Aside0.mk (hq)
 have HG2 := Aside0.mk (hg)
 have V50 := Aside0.mk (hV)
 have HN9 := Aside0.mk (hn9)
 have Z50 := Aside0.mk (hZ)
 have GE := Aside0.mk (hge)
 have BR50 := Aside0.mk (hB)
 have hHeld : w50.cell? ⟨gX, 0, none⟩ = some (.int .i64 (W : Int)) ∧ w50.cell? ⟨gX, 1, none⟩ = some (.int .i64 (H : Int)) ∧ w50.cell? ⟨gX, 2, none⟩ = some (.slice A n cap) := ⟨(blk_cell (blk_below DX_40.out BR50.out) 0).trans rfl, (blk_cell (blk_below DX_40.out BR50.out) 1).trans rfl, (blk_cell (blk_below DX_40.out BR50.out) 2).trans rfl⟩
 clear hq hg hV hn9 hZ hge hB
 refine norm_ (a' := ?_) ?_ ?_
 rotate_left
 ·simp only [YtodlgdpkadkjjaaW.PrintLast.putAll, Act.put, List.setIfInBounds_toArray, List.set_cons_zero, List.set_cons_succ]
  rfl
 refine last_ (i := 24) (N := none) #[tt_,tt_,tt_,tt_,tt_,tt_,tt_,tt_,tt_,tt_,tt_,tt_,tt_,tt_,tt_,tt_,tt_,tt_,tt_,tt_,tt_,tt_,tt_,tt_,tt_,ff_] rfl rfl (by kernel_rfl) (by decide) (fun K hK => ?_)
 refine storeP_step (by rfl) rfl rfl g17 (W2 : Int) (H2 : Int) A9 n9 c9 _ _ _ rfl rfl Z50.out ?_
 intro w51 hm_ hst_ hbl_
 have DF_51 := Aside0.mk (hm_)
 have BR51 := Aside0.mk (BR50.out.trans (hbl_ _ GE.out))
 have V51 := Aside0.mk (Kd.R_mono (Kd.R_move (Kd.R_types V50.out Z50.out (by decide)) (fun k hk => hst_ k hk.2)) (ok' := fun _ => True) (fun _ _ => trivial))
 clear hm_ hst_ hbl_
 refine hK.out _ _ ?_
 clear hK K
 refine pure_ (i := 25) (N := some 18) (v := ?_) (a' := ?_) #[tt_,tt_,tt_,tt_,tt_,tt_,tt_,tt_,tt_,tt_,tt_,tt_,tt_,tt_,tt_,tt_,tt_,tt_,tt_,tt_,tt_,tt_,tt_,tt_,tt_,tt_] rfl rfl (by kernel_rfl) (fun _ _ _ h => h) (Or.inl ⟨by rfl, ?_⟩) ?_ ?_
 rotate_left
 ·intro w'
  go_simp
  with_reducible rfl
 rotate_left
 ·simp only [Act.put, List.setIfInBounds_toArray, List.set_cons_zero, List.set_cons_succ, i64_w, i32_w]
  rfl
 refine done_ (by kernel_rfl) ?_
 have B_60 := Aside0.mk (below_step B_40.out BR51.out)
 have DX_60 := Aside0.mk (blk_below DX_40.out BR51.out)
 have DE_60 := Aside0.mk (blk_below DE_40.out BR51.out)
 have DF_60 := DF_51
 have Le_60 := Aside0.mk (Le_40.out.below BR51.out)
 have Ld_60 := Aside0.mk (PL.ofS V51.out)
 clear DF_51 BR51 V51 DX_40 DE_40 Le_40 Lx_40 B_40 V50 Z50 BR50
 go_upto_region 12 with (fail)
 have DX_d := Aside0.mk (blk_drew DX_60.out)
 have DE_d := Aside0.mk (blk_drew DE_60.out)
 have DF_d := Aside0.mk (blk_drew DF_60.out)
 have Le_d := Aside0.mk (Le_60.out.below (below_drew1 (Below.refl _ _)))
 have Ld_d := Aside0.mk (Ld_60.out.below (below_drew1 (Below.refl _ _)))
 have B_d : Aside0 (Below w.heap.size w w51.drew) := ⟨below_drew1 B_60.out⟩
 clear DX_60 DE_60 DF_60 Le_60 Ld_60 B_60
 have DX_70 := DX_d
 have DE_70 := DE_d
 have DF_70 := DF_d
 have Le_70 := Le_d
 have Ld_70 := Ld_d
 have B_70 := B_d
 clear DX_d DE_d DF_d Le_d Ld_d B_d
 obtain ⟨adE, hA, hxA, iA⟩ := cellAt Le_70.out GK2.out
 subst hA
 obtain ⟨adF, hA, hxB, iB⟩ := cellAt Ld_70.out (show k2 < (expS W H W2 H2 q2).length by have h := GK2.out; rw [expS_length] at h ⊢; exact h)
 subst hA
 have hEq : gt (expS W H W2 H2 xs) k2 = gt (expS W H W2 H2 q2) k2 := by
  rw [← HK2.out]
  refine expS_near HWH.out.1 HWH.out.2.1 GX2.out GY2.out (fun i j h1 h2 h3 h4 => HG2.out i j ?_ ?_ ?_ ?_)
  all_goals (have h5 := HX3.out; have h6 := HY3.out; have h7 := HX4.out; have h8 := HY4.out; clear g1 g2 g2b g3 g4 g5 g6 g7 g8 g9 g10 g11 g12 f1 f4 f7 f8 m1 m2 m3 m4 hw0 v1 v2 v3 v4 v5 v6; omega)
 obtain ⟨r2, hr2⟩ : ∃ r2, gt (expS W H W2 H2 xs) k2 = r2 := ⟨_, rfl⟩
 rw [← hEq, hr2] at hxB
 rw [hr2] at hxA
 have XE := Aside0.mk hxA
 have XF := Aside0.mk hxB
 have i1 : ((k2 : Int) < (ne : Int)) = True := eq_true (Int.ofNat_lt.mpr iA)
 have i2 : ((k2 : Int) < (n9 : Int)) = True := eq_true (Int.ofNat_lt.mpr iB)
 have n1 : ((r2 : Int) == (r2 : Int)) = true := beq_self_eq_true _
 clear hEq hr2 hxA hxB iA iB
 refine start_ (n := 32) (S := fun w' => w'.cell? ⟨gX, 0, none⟩ = some (.int .i64 (W : Int)) ∧ w'.cell? ⟨gE, 2, none⟩ = some (.slice (some adE) ne ce) ∧ w'.cell? ⟨g17, 2, none⟩ = some (.slice (some adF) n9 c9) ∧ w'.cell? (adE.add k2) = some (.int .u32 (r2 : Int)) ∧ w'.cell? (adF.add k2) = some (.int .u32 (r2 : Int))) (ds := []) #[ff_,ff_,ff_,ff_,ff_,ff_,ff_,ff_,ff_,ff_,ff_,ff_,ff_,ff_,ff_,ff_,ff_,ff_,ff_,ff_,ff_,ff_,ff_,ff_,ff_,ff_,ff_,ff_,ff_,ff_,ff_,ff_] (by kernel_rfl) rfl rfl ⟨(blk_cell DX_70.out 0).trans rfl, (blk_cell DE_70.out 2).trans rfl, (blk_cell DF_70.out 2).trans rfl, XE.out, XF.out⟩ (fun hHeld => ?_)
 generalize w51.drew = w70 at *
 refine pure_ (i := 0) (N := some 152) (v := ?_) (a' := ?_) #[tt_,ff_,ff_,ff_,ff_,ff_,ff_,ff_,ff_,ff_,ff_,ff_,ff_,ff_,ff_,ff_,ff_,ff_,ff_,ff_,ff_,ff_,ff_,ff_,ff_,ff_,ff_,ff_,ff_,ff_,ff_,ff_] rfl rfl (by kernel_rfl) (fun _ _ _ h => h) (Or.inl ⟨by rfl, ?_⟩) ?_ ?_
 rotate_left
 ·intro w'
  go_simp
  with_reducible rfl
 rotate_left
 ·simp only [Act.put, List.setIfInBounds_toArray, List.set_cons_zero, List.set_cons_succ, i64_w, i32_w]
  rfl
 refine pure_ (i := 2) (N := some 154) (v := ?_) (a' := ?_) #[tt_,ff_,tt_,ff_,ff_,ff_,ff_,ff_,ff_,ff_,ff_,ff_,ff_,ff_,ff_,ff_,ff_,ff_,ff_,ff_,ff_,ff_,ff_,ff_,ff_,ff_,ff_,ff_,ff_,ff_,ff_,ff_] rfl rfl (by kernel_rfl) (fun _ _ _ h => h) (Or.inl ⟨by rfl, ?_⟩) ?_ ?_
 rotate_left
 ·intro w'
  go_simp
  with_reducible rfl
 rotate_left
 ·simp only [Act.put, List.setIfInBounds_toArray, List.set_cons_zero, List.set_cons_succ, i64_w, i32_w]
  rfl
 refine one_ (i := 1) (N := some 153) #[tt_,tt_,tt_,ff_,ff_,ff_,ff_,ff_,ff_,ff_,ff_,ff_,ff_,ff_,ff_,ff_,ff_,ff_,ff_,ff_,ff_,ff_,ff_,ff_,ff_,ff_,ff_,ff_,ff_,ff_,ff_,ff_] rfl rfl (by kernel_rfl) (by decide) (fun K hK => ?_)
 refine goes_ Try.func17 (by kernel_rfl) rfl #[.int .i64 0] (by rfl) rfl rfl (by (try simp only [List.map_toArray, List.map_cons, List.map_nil]); rfl) ?_
 with_reducible refine (num_calls 0 _).mono ?_
 rintro e _ ⟨rfl, rfl⟩
 refine ⟨_, rfl, ?_⟩
 refine hK.out _ _ ⟨(blk_cell DX_70.out 0).trans rfl, (blk_cell DE_70.out 2).trans rfl, (blk_cell DF_70.out 2).trans rfl, XE.out, XF.out⟩ (fun hHeld => ?_)
 clear hK K
 refine norm_ (a' := ?_) ?_ ?_
 rotate_left
 ·show Act.put _ (some 153) _ = _
  simp only [Act.put, List.setIfInBounds_toArray, List.set_cons_zero, List.set_cons_succ, i64_w, i32_w]
  rfl
 refine one_ (i := 3) (N := some 155) #[tt_,tt_,tt_,tt_,ff_,ff_,ff_,ff_,ff_,ff_,ff_,ff_,ff_,ff_,ff_,ff_,ff_,ff_,ff_,ff_,ff_,ff_,ff_,ff_,ff_,ff_,ff_,ff_,ff_,ff_,ff_,ff_] rfl rfl (by kernel_rfl) (by decide) (fun K hK => ?_)
 refine goes_ Try.func17 (by kernel_rfl) rfl #[.int .i64 0] (by rfl) rfl rfl (by (try simp only [List.map_toArray, List.map_cons, List.map_nil]); rfl) ?_
 with_reducible refine (num_calls 0 _).mono ?_
 rintro e _ ⟨rfl, rfl⟩
 refine ⟨_, rfl, ?_⟩
 refine hK.out _ _ ⟨(blk_cell DX_70.out 0).trans rfl, (blk_cell DE_70.out 2).trans rfl, (blk_cell DF_70.out 2).trans rfl, XE.out, XF.out⟩ (fun hHeld => ?_)
 clear hK K
 refine norm_ (a' := ?_) ?_ ?_
 rotate_left
 ·show Act.put _ (some 155) _ = _
  simp only [Act.put, List.setIfInBounds_toArray, List.set_cons_zero, List.set_cons_succ, i64_w, i32_w]
  rfl
 refine pure_ (i := 4) (N := some 156) (v := ?_) (a' := ?_) #[tt_,tt_,tt_,tt_,tt_,ff_,ff_,ff_,ff_,ff_,ff_,ff_,ff_,ff_,ff_,ff_,ff_,ff_,ff_,ff_,ff_,ff_,ff_,ff_,ff_,ff_,ff_,ff_,ff_,ff_,ff_,ff_] rfl rfl (by kernel_rfl) (fun _ _ _ h => h) (Or.inl ⟨by rfl, ?_⟩) ?_ ?_
 rotate_left
 ·intro w'
  go_simp
  with_reducible rfl
 rotate_left
 ·simp only [Act.put, List.setIfInBounds_toArray, List.set_cons_zero, List.set_cons_succ, i64_w, i32_w]
  rfl
 refine pure_ (i := 5) (N := some 157) (v := ?_) (a' := ?_) #[tt_,tt_,tt_,tt_,tt_,tt_,ff_,ff_,ff_,ff_,ff_,ff_,ff_,ff_,ff_,ff_,ff_,ff_,ff_,ff_,ff_,ff_,ff_,ff_,ff_,ff_,ff_,ff_,ff_,ff_,ff_,ff_] rfl rfl (by kernel_rfl) (fun _ _ _ h => h) (Or.inl ⟨by rfl, ?_⟩) ?_ ?_
 rotate_left
 ·intro w'
  go_simp
  with_reducible rfl
 rotate_left
 ·simp only [Act.put, List.setIfInBounds_toArray, List.set_cons_zero, List.set_cons_succ, i64_w, i32_w]
  rfl
 refine pure_ (i := 6) (N := some 158) (v := ?_) (a' := ?_) #[tt_,tt_,tt_,tt_,tt_,tt_,tt_,ff_,ff_,ff_,ff_,ff_,ff_,ff_,ff_,ff_,ff_,ff_,ff_,ff_,ff_,ff_,ff_,ff_,ff_,ff_,ff_,ff_,ff_,ff_,ff_,ff_] rfl rfl (by kernel_rfl) (fun _ _ _ h => h) (Or.inl ⟨by rfl, ?_⟩) ?_ ?_
 rotate_left
 ·intro w'
  go_simp
  with_reducible rfl
 rotate_left
 ·simp only [Act.put, List.setIfInBounds_toArray, List.set_cons_zero, List.set_cons_succ, i64_w, i32_w]
  rfl
 refine pure_ (i := 7) (N := some 159) (v := ?_) (a' := ?_) #[tt_,tt_,tt_,tt_,tt_,tt_,tt_,tt_,ff_,ff_,ff_,ff_,ff_,ff_,ff_,ff_,ff_,ff_,ff_,ff_,ff_,ff_,ff_,ff_,ff_,ff_,ff_,ff_,ff_,ff_,ff_,ff_] rfl rfl (by kernel_rfl) (fun _ _ _ h => h) (Or.inl ⟨by rfl, ?_⟩) ?_ ?_
 rotate_left
 ·intro w'
  go_simp
  with_reducible rfl
 rotate_left
 ·simp only [Act.put, List.setIfInBounds_toArray, List.set_cons_zero, List.set_cons_succ, i64_w, i32_w]
  rfl
 refine pure_ (i := 9) (N := some 161) (v := ?_) (a' := ?_) #[tt_,tt_,tt_,tt_,tt_,tt_,tt_,tt_,ff_,tt_,ff_,ff_,ff_,ff_,ff_,ff_,ff_,ff_,ff_,ff_,ff_,ff_,ff_,ff_,ff_,ff_,ff_,ff_,ff_,ff_,ff_,ff_] rfl rfl (by kernel_rfl) (fun _ _ _ h => h) (Or.inl ⟨by rfl, ?_⟩) ?_ ?_
 rotate_left
 ·intro w'
  go_simp
  with_reducible rfl
 rotate_left
 ·simp only [Act.put, List.setIfInBounds_toArray, List.set_cons_zero, List.set_cons_succ, i64_w, i32_w]
  rfl
 refine pure_ (i := 10) (N := some 162) (v := ?_) (a' := ?_) #[tt_,tt_,tt_,tt_,tt_,tt_,tt_,tt_,ff_,tt_,tt_,ff_,ff_,ff_,ff_,ff_,ff_,ff_,ff_,ff_,ff_,ff_,ff_,ff_,ff_,ff_,ff_,ff_,ff_,ff_,ff_,ff_] rfl rfl (by kernel_rfl) (fun _ _ _ h => h) (Or.inl ⟨by rfl, ?_⟩) ?_ ?_
 rotate_left
 ·intro w'
  go_simp
  with_reducible rfl
 rotate_left
 ·simp only [Act.put, List.setIfInBounds_toArray, List.set_cons_zero, List.set_cons_succ, i64_w, i32_w]
  rfl
 refine pure_ (i := 11) (N := some 163) (v := ?_) (a' := ?_) #[tt_,tt_,tt_,tt_,tt_,tt_,tt_,tt_,ff_,tt_,tt_,tt_,ff_,ff_,ff_,ff_,ff_,ff_,ff_,ff_,ff_,ff_,ff_,ff_,ff_,ff_,ff_,ff_,ff_,ff_,ff_,ff_] rfl rfl (by kernel_rfl) (fun _ _ _ h => h) (Or.inl ⟨by rfl, ?_⟩) ?_ ?_
 rotate_left
 ·intro w'
  go_simp
  with_reducible rfl
 rotate_left
 ·simp only [Act.put, List.setIfInBounds_toArray, List.set_cons_zero, List.set_cons_succ, i64_w, i32_w]
  rfl
 refine pure_ (i := 14) (N := some 166) (v := ?_) (a' := ?_) #[tt_,tt_,tt_,tt_,tt_,tt_,tt_,tt_,ff_,tt_,tt_,tt_,ff_,ff_,tt_,ff_,ff_,ff_,ff_,ff_,ff_,ff_,ff_,ff_,ff_,ff_,ff_,ff_,ff_,ff_,ff_,ff_] rfl rfl (by kernel_rfl) (fun _ _ _ h => h) (Or.inl ⟨by rfl, ?_⟩) ?_ ?_
 rotate_left
 ·intro w'
  go_simp
  with_reducible rfl
 rotate_left
 ·simp only [Act.put, List.setIfInBounds_toArray, List.set_cons_zero, List.set_cons_succ, i64_w, i32_w]
  rfl
 refine pure_ (i := 18) (N := some 170) (v := ?_) (a' := ?_) #[tt_,tt_,tt_,tt_,tt_,tt_,tt_,tt_,ff_,tt_,tt_,tt_,ff_,ff_,tt_,ff_,ff_,ff_,tt_,ff_,ff_,ff_,ff_,ff_,ff_,ff_,ff_,ff_,ff_,ff_,ff_,ff_] rfl rfl (by kernel_rfl) (fun _ _ _ h => h) (Or.inl ⟨by rfl, ?_⟩) ?_ ?_
 rotate_left
 ·intro w'
  go_simp
  with_reducible rfl
 rotate_left
 ·simp only [Act.put, List.setIfInBounds_toArray, List.set_cons_zero, List.set_cons_succ, i64_w, i32_w]
  rfl
 refine pure_ (i := 20) (N := some 172) (v := ?_) (a' := ?_) #[tt_,tt_,tt_,tt_,tt_,tt_,tt_,tt_,ff_,tt_,tt_,tt_,ff_,ff_,tt_,ff_,ff_,ff_,tt_,ff_,tt_,ff_,ff_,ff_,ff_,ff_,ff_,ff_,ff_,ff_,ff_,ff_] rfl rfl (by kernel_rfl) (fun _ _ _ h => h) (Or.inl ⟨by rfl, ?_⟩) ?_ ?_
 rotate_left
 ·intro w'
  go_simp
  with_reducible rfl
 rotate_left
 ·simp only [Act.put, List.setIfInBounds_toArray, List.set_cons_zero, List.set_cons_succ, i64_w, i32_w]
  rfl
 refine pure_ (i := 21) (N := some 173) (v := ?_) (a' := ?_) #[tt_,tt_,tt_,tt_,tt_,tt_,tt_,tt_,ff_,tt_,tt_,tt_,ff_,ff_,tt_,ff_,ff_,ff_,tt_,ff_,tt_,tt_,ff_,ff_,ff_,ff_,ff_,ff_,ff_,ff_,ff_,ff_] rfl rfl (by kernel_rfl) (fun _ _ _ h => h) (Or.inl ⟨by rfl, ?_⟩) ?_ ?_
 rotate_left
 ·intro w'
  go_simp
  with_reducible rfl
 rotate_left
 ·simp only [Act.put, List.setIfInBounds_toArray, List.set_cons_zero, List.set_cons_succ, i64_w, i32_w]
  rfl
 refine pure_ (i := 22) (N := some 174) (v := ?_) (a' := ?_) #[tt_,tt_,tt_,tt_,tt_,tt_,tt_,tt_,ff_,tt_,tt_,tt_,ff_,ff_,tt_,ff_,ff_,ff_,tt_,ff_,tt_,tt_,tt_,ff_,ff_,ff_,ff_,ff_,ff_,ff_,ff_,ff_] rfl rfl (by kernel_rfl) (fun _ _ _ h => h) (Or.inl ⟨by rfl, ?_⟩) ?_ ?_
 rotate_left
 ·intro w'
  go_simp
  with_reducible rfl
 rotate_left
 ·simp only [Act.put, List.setIfInBounds_toArray, List.set_cons_zero, List.set_cons_succ, i64_w, i32_w]
  rfl
 refine pure_ (i := 25) (N := some 177) (v := ?_) (a' := ?_) #[tt_,tt_,tt_,tt_,tt_,tt_,tt_,tt_,ff_,tt_,tt_,tt_,ff_,ff_,tt_,ff_,ff_,ff_,tt_,ff_,tt_,tt_,tt_,ff_,ff_,tt_,ff_,ff_,ff_,ff_,ff_,ff_] rfl rfl (by kernel_rfl) (fun _ _ _ h => h) (Or.inl ⟨by rfl, ?_⟩) ?_ ?_
 rotate_left
 ·intro w'
  go_simp
  with_reducible rfl
 rotate_left
 ·simp only [Act.put, List.setIfInBounds_toArray, List.set_cons_zero, List.set_cons_succ, i64_w, i32_w]
  rfl
 refine take_ (i := 8) (N := some 160) (v := ?_) (a' := ?_) #[tt_,tt_,tt_,tt_,tt_,tt_,tt_,tt_,tt_,tt_,tt_,tt_,ff_,ff_,tt_,ff_,ff_,ff_,tt_,ff_,tt_,tt_,tt_,ff_,ff_,tt_,ff_,ff_,ff_,ff_,ff_,ff_] rfl rfl (by kernel_rfl) (fun _ _ _ h => h) (Or.inl ⟨by rfl, ?_⟩) hHeld ?_ ?_
 rotate_left
 ·rintro w' ⟨s0, s1, s2, s3, s4⟩
  go_simp
  with_reducible rfl
 rotate_left
 ·simp only [Act.put, List.setIfInBounds_toArray, List.set_cons_zero, List.set_cons_succ, i64_w, i32_w]
  rfl
 refine take_ (i := 12) (N := some 164) (v := ?_) (a' := ?_) #[tt_,tt_,tt_,tt_,tt_,tt_,tt_,tt_,tt_,tt_,tt_,tt_,tt_,ff_,tt_,ff_,ff_,ff_,tt_,ff_,tt_,tt_,tt_,ff_,ff_,tt_,ff_,ff_,ff_,ff_,ff_,ff_] rfl rfl (by kernel_rfl) (fun _ _ _ h => h) (Or.inl ⟨by rfl, ?_⟩) hHeld ?_ ?_
 rotate_left
 ·rintro w' ⟨s0, s1, s2, s3, s4⟩
  go_simp
  with_reducible rfl
 rotate_left
 ·simp only [Act.put, List.setIfInBounds_toArray, List.set_cons_zero, List.set_cons_succ, i64_w, i32_w]
  rfl
 refine pure_ (i := 13) (N := some 165) (v := ?_) (a' := ?_) #[tt_,tt_,tt_,tt_,tt_,tt_,tt_,tt_,tt_,tt_,tt_,tt_,tt_,tt_,tt_,ff_,ff_,ff_,tt_,ff_,tt_,tt_,tt_,ff_,ff_,tt_,ff_,ff_,ff_,ff_,ff_,ff_] rfl rfl (by kernel_rfl) (fun _ _ _ h => h) (Or.inl ⟨by rfl, ?_⟩) ?_ ?_
 rotate_left
 ·intro w'
  go_simp
  with_reducible rfl
 rotate_left
 ·simp only [Act.put, List.setIfInBounds_toArray, List.set_cons_zero, List.set_cons_succ, i64_w, i32_w]
  rfl
 refine pure_ (i := 15) (N := some 167) (v := ?_) (a' := ?_) #[tt_,tt_,tt_,tt_,tt_,tt_,tt_,tt_,tt_,tt_,tt_,tt_,tt_,tt_,tt_,tt_,ff_,ff_,tt_,ff_,tt_,tt_,tt_,ff_,ff_,tt_,ff_,ff_,ff_,ff_,ff_,ff_] rfl rfl (by kernel_rfl) (fun _ _ _ h => h) (Or.inl ⟨by rfl, ?_⟩) ?_ ?_
 rotate_left
 ·intro w'
  go_simp
  with_reducible rfl
 rotate_left
 ·simp only [Act.put, List.setIfInBounds_toArray, List.set_cons_zero, List.set_cons_succ, i64_w, i32_w]
  rfl
 refine pure_ (i := 16) (N := some 168) (v := ?_) (a' := ?_) #[tt_,tt_,tt_,tt_,tt_,tt_,tt_,tt_,tt_,tt_,tt_,tt_,tt_,tt_,tt_,tt_,tt_,ff_,tt_,ff_,tt_,tt_,tt_,ff_,ff_,tt_,ff_,ff_,ff_,ff_,ff_,ff_] rfl rfl (by kernel_rfl) (fun _ _ _ h => h) (Or.inl ⟨by rfl, ?_⟩) ?_ ?_
 rotate_left
 ·intro w'
  go_simp
  with_reducible rfl
 rotate_left
 ·simp only [Act.put, List.setIfInBounds_toArray, List.set_cons_zero, List.set_cons_succ, i64_w, i32_w]
  rfl
 refine take_ (i := 17) (N := some 169) (v := ?_) (a' := ?_) #[tt_,tt_,tt_,tt_,tt_,tt_,tt_,tt_,tt_,tt_,tt_,tt_,tt_,tt_,tt_,tt_,tt_,tt_,tt_,ff_,tt_,tt_,tt_,ff_,ff_,tt_,ff_,ff_,ff_,ff_,ff_,ff_] rfl rfl (by kernel_rfl) (fun _ _ _ h => h) (Or.inl ⟨by rfl, ?_⟩) hHeld ?_ ?_
 rotate_left
 ·rintro w' ⟨s0, s1, s2, s3, s4⟩
  go_simp
  with_reducible rfl
 rotate_left
 ·simp only [Act.put, List.setIfInBounds_toArray, List.set_cons_zero, List.set_cons_succ, i64_w, i32_w]
  rfl
 refine take_ (i := 19) (N := some 171) (v := ?_) (a' := ?_) #[tt_,tt_,tt_,tt_,tt_,tt_,tt_,tt_,tt_,tt_,tt_,tt_,tt_,tt_,tt_,tt_,tt_,tt_,tt_,tt_,tt_,tt_,tt_,ff_,ff_,tt_,ff_,ff_,ff_,ff_,ff_,ff_] rfl rfl (by kernel_rfl) (fun _ _ _ h => h) (Or.inl ⟨by rfl, ?_⟩) hHeld ?_ ?_
 rotate_left
 ·rintro w' ⟨s0, s1, s2, s3, s4⟩
  go_simp
  with_reducible rfl
 rotate_left
 ·simp only [Act.put, List.setIfInBounds_toArray, List.set_cons_zero, List.set_cons_succ, i64_w, i32_w]
  rfl
 refine take_ (i := 23) (N := some 175) (v := ?_) (a' := ?_) #[tt_,tt_,tt_,tt_,tt_,tt_,tt_,tt_,tt_,tt_,tt_,tt_,tt_,tt_,tt_,tt_,tt_,tt_,tt_,tt_,tt_,tt_,tt_,tt_,ff_,tt_,ff_,ff_,ff_,ff_,ff_,ff_] rfl rfl (by kernel_rfl) (fun _ _ _ h => h) (Or.inl ⟨by rfl, ?_⟩) hHeld ?_ ?_
 rotate_left
 ·rintro w' ⟨s0, s1, s2, s3, s4⟩
  go_simp
  with_reducible rfl
 rotate_left
 ·simp only [Act.put, List.setIfInBounds_toArray, List.set_cons_zero, List.set_cons_succ, i64_w, i32_w]
  rfl
 refine pure_ (i := 24) (N := some 176) (v := ?_) (a' := ?_) #[tt_,tt_,tt_,tt_,tt_,tt_,tt_,tt_,tt_,tt_,tt_,tt_,tt_,tt_,tt_,tt_,tt_,tt_,tt_,tt_,tt_,tt_,tt_,tt_,tt_,tt_,ff_,ff_,ff_,ff_,ff_,ff_] rfl rfl (by kernel_rfl) (fun _ _ _ h => h) (Or.inl ⟨by rfl, ?_⟩) ?_ ?_
 rotate_left
 ·intro w'
  go_simp
  with_reducible rfl
 rotate_left
 ·simp only [Act.put, List.setIfInBounds_toArray, List.set_cons_zero, List.set_cons_succ, i64_w, i32_w]
  rfl
 refine pure_ (i := 26) (N := some 178) (v := ?_) (a' := ?_) #[tt_,tt_,tt_,tt_,tt_,tt_,tt_,tt_,tt_,tt_,tt_,tt_,tt_,tt_,tt_,tt_,tt_,tt_,tt_,tt_,tt_,tt_,tt_,tt_,tt_,tt_,tt_,ff_,ff_,ff_,ff_,ff_] rfl rfl (by kernel_rfl) (fun _ _ _ h => h) (Or.inl ⟨by rfl, ?_⟩) ?_ ?_
 rotate_left
 ·intro w'
  go_simp
  with_reducible rfl
 rotate_left
 ·simp only [Act.put, List.setIfInBounds_toArray, List.set_cons_zero, List.set_cons_succ, i64_w, i32_w]
  rfl
 refine pure_ (i := 27) (N := some 179) (v := ?_) (a' := ?_) #[tt_,tt_,tt_,tt_,tt_,tt_,tt_,tt_,tt_,tt_,tt_,tt_,tt_,tt_,tt_,tt_,tt_,tt_,tt_,tt_,tt_,tt_,tt_,tt_,tt_,tt_,tt_,tt_,ff_,ff_,ff_,ff_] rfl rfl (by kernel_rfl) (fun _ _ _ h => h) (Or.inl ⟨by rfl, ?_⟩) ?_ ?_
 rotate_left
 ·intro w'
  go_simp
  with_reducible rfl
 rotate_left
 ·simp only [Act.put, List.setIfInBounds_toArray, List.set_cons_zero, List.set_cons_succ, i64_w, i32_w]
  rfl
 refine take_ (i := 28) (N := some 180) (v := ?_) (a' := ?_) #[tt_,tt_,tt_,tt_,tt_,tt_,tt_,tt_,tt_,tt_,tt_,tt_,tt_,tt_,tt_,tt_,tt_,tt_,tt_,tt_,tt_,tt_,tt_,tt_,tt_,tt_,tt_,tt_,tt_,ff_,ff_,ff_] rfl rfl (by kernel_rfl) (fun _ _ _ h => h) (Or.inl ⟨by rfl, ?_⟩) hHeld ?_ ?_
 rotate_left
 ·rintro w' ⟨s0, s1, s2, s3, s4⟩
  go_simp
  with_reducible rfl
 rotate_left
 ·simp only [Act.put, List.setIfInBounds_toArray, List.set_cons_zero, List.set_cons_succ, i64_w, i32_w]
  rfl
 refine pure_ (i := 29) (N := some 181) (v := ?_) (a' := ?_) #[tt_,tt_,tt_,tt_,tt_,tt_,tt_,tt_,tt_,tt_,tt_,tt_,tt_,tt_,tt_,tt_,tt_,tt_,tt_,tt_,tt_,tt_,tt_,tt_,tt_,tt_,tt_,tt_,tt_,tt_,ff_,ff_] rfl rfl (by kernel_rfl) (fun _ _ _ h => h) (Or.inl ⟨by rfl, ?_⟩) ?_ ?_
 rotate_left
 ·intro w'
  go_simp
  with_reducible rfl
 rotate_left
 ·simp only [Act.put, List.setIfInBounds_toArray, List.set_cons_zero, List.set_cons_succ, i64_w, i32_w]
  rfl
 refine pure_ (i := 30) (N := some 182) (v := ?_) (a' := ?_) #[tt_,tt_,tt_,tt_,tt_,tt_,tt_,tt_,tt_,tt_,tt_,tt_,tt_,tt_,tt_,tt_,tt_,tt_,tt_,tt_,tt_,tt_,tt_,tt_,tt_,tt_,tt_,tt_,tt_,tt_,tt_,ff_] rfl rfl (by kernel_rfl) (fun _ _ _ h => h) (Or.inl ⟨by rfl, ?_⟩) ?_ ?_
 rotate_left
 ·intro w'
  go_simp
  with_reducible rfl
 rotate_left
 ·simp only [Act.put, List.setIfInBounds_toArray, List.set_cons_zero, List.set_cons_succ, i64_w, i32_w]
  rfl
 refine pure_ (i := 31) (N := some 8) (v := ?_) (a' := ?_) #[tt_,tt_,tt_,tt_,tt_,tt_,tt_,tt_,tt_,tt_,tt_,tt_,tt_,tt_,tt_,tt_,tt_,tt_,tt_,tt_,tt_,tt_,tt_,tt_,tt_,tt_,tt_,tt_,tt_,tt_,tt_,tt_] rfl rfl (by kernel_rfl) (fun _ _ _ h => h) (Or.inl ⟨by rfl, ?_⟩) ?_ ?_
 rotate_left
 ·intro w'
  go_simp
  with_reducible rfl
 rotate_left
 ·simp only [Act.put, List.setIfInBounds_toArray, List.set_cons_zero, List.set_cons_succ, i64_w, i32_w]
  rfl
 refine done_ (by kernel_rfl) ?_
 try go_wp2
 go_ret
 exact ⟨rfl, B_70.out⟩
theorem pyramidNeeds (x y : Int) (A : Option Addr) (cap : Nat) (xs : List Nat) (u v : Int) (s : Nat) (w : World) (hC : (nat .u32).C w A xs.length xs) (hc : xs.length ≤ cap) (hx : ∀ i, gt xs i < 4294967296) (_hu : -9223372036854775808 ≤ u ∧ u < 9223372036854775808) (_hv : -9223372036854775808 ≤ v ∧ v < 9223372036854775808) (hs : s < 4294967296) :
    Calls Try.prog 7 #[.agg #[.int .i64 x, .int .i64 y, .slice A xs.length cap], .int .i64 u, .int .i64 v, .int .u32 (s : Int)] w fun e w' => e = .returned (.bool true) ∧ Below w.heap.size w w' := by
 have h1 := PL.start hC hc
 by_cases hE : checkE x y xs.length = 0
 ·obtain ⟨W, H, rfl, rfl, e1⟩ := checkE_zero hE
  have hp := ok_mk hE hx
  by_cases hg : u < 0 ∨ v < 0 ∨ (hf W : Int) ≤ u ∨ (hf H : Int) ≤ v ∨ 1024 < 2 * W ∨ 1024 < 2 * H ∨ 65536 < 4 * W * H
  ·exact needs_guard W H u v A _ cap s xs w h1 hp hg
  ·obtain ⟨a, rfl⟩ : ∃ a : Nat, u = (a : Int) := ⟨u.toNat, by omega⟩
   obtain ⟨b, rfl⟩ : ∃ b : Nat, v = (b : Int) := ⟨v.toNat, by omega⟩
   exact needs_main W H a b A _ cap s xs w h1 hp hs (by omega) (by omega) (by omega) (by omega) (by omega)
 ·exact needs_bad x y u v A _ cap s xs w h1 hE
end Go.Proofs.Ytodlgdpkadkjjaa.A
end
