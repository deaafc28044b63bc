import Derived.Test.YtbbebhdcfopmmaaT5
import Derived.Deep.Cut
section
set_option linter.unusedVariables false
set_option linter.unusedSimpArgs false
namespace Go.Proofs.Ytbbebhdcfopmmaa.A
open Go.RowKit Go.Proofs.YtbbebhdcfopmmaaW.PrintWords Go.Proofs.YtbbebhdcfopmmaaW.PrintLast Go.Proofs.YtbbebhdcfopmmaaW.PrintMore Go.Proofs.Ytbbebhdcfopmmaa.PCodecNames

theorem ints_true {A B : Option Addr} {c d m m2 : Nat} {xs ys : List Nat} {w : World} (hl : xs.length = m) (hl2 : ys.length = m2) (he : xs = ys) (hA : (nat .i64).C w A m xs) (hB : (nat .i64).C w B m2 ys) (hc : m ≤ c) (hd : m2 ≤ d) (hm : m < 4611686018427387904) :
    Calls Try.prog 41 #[.slice A m c, .slice B m2 d] w fun e w' => e = .returned (.bool true) ∧ Below w.heap.size w w' := by
 subst he hl hl2
 refine (intsq_nat A B c d xs xs w hA hB hc hd hm).mono ?_
 rintro e w' ⟨rfl, hd⟩
 exact ⟨by rw [decide_eq_true rfl], Drawn0.to_below hd⟩
theorem tilesTo_snoc (cols A B C j : Nat) : tilesTo cols A B C j ++ (List.range (B + 1 - A)).map (fun x => (C + j) * cols + (A + x)) = tilesTo cols A B C (j + 1) := by
 unfold tilesTo
 rw [List.range_succ, List.flatMap_append, List.flatMap_singleton]
theorem tilesTo_len (cols A B C j : Nat) : (tilesTo cols A B C j).length = j * (B + 1 - A) := by
 induction j with
 | zero => simp [tilesTo]
 | succ j ih => rw [← tilesTo_snoc, List.length_append, ih, List.length_map, List.length_range, Nat.succ_mul]
set_option maxHeartbeats 16000000 in
set_option maxRecDepth 100000 in
theorem codecCrop1 (p : Pic) (S : Nat) (A : Option Addr) (cap n : Nat) (l : List S31) (X0 Y0 X1 Y1 : Nat) (w : World) (hn : l.length = n) (hl : l = p.s31s) (hok : p.ok) (hS : 1 ≤ S) (hS2 : S ≤ 1024) (hC : Kd.C k31 w A n l) (hcap : n ≤ cap) (hz : fewB l = true) (hs : fewTo l (min n 100) < 4611686018427387904) (hX : X0 < X1) (hX1 : X1 ≤ p.w) (hY : Y0 < Y1) (hY1 : Y1 ≤ p.h) :
    Calls Try.prog 11 #[.agg #[.int .i64 (p.sp : Int), .slice A n cap], .int .i64 (S : Int), .agg #[.int .i64 (X0 : Int), .int .i64 (Y0 : Int), .int .i64 (X1 : Int), .int .i64 (Y1 : Int)]] w fun e w' => e = .returned (.bool true) ∧ Below w.heap.size w w' := by
 have hu47 := Try.underlying47
 have hu31 := Try.underlying31
 have hu73 := Try.underlying73
 have hnp : n = p.ss.length := by rw [← hn, hl, hok.len]
 have hn0 : 0 < n := by rw [hnp]; exact hok.2.1
 have hn4 : n ≤ 4 := by rw [hnp]; exact hok.2.2.1
 have HNP := Aside0.mk hnp
 have HN0 := Aside0.mk (And.intro hn0 hn4)
 obtain ⟨ad, A0, c0, rfl, x0, x1, x2, _, _⟩ := at_T31 hC 0 (by omega) (by omega)
 have e0 : rd_T31 l 0 = ⟨(p.w : Int), (p.h : Int), ints (p.ss.getD 0 [])⟩ := by rw [hl]; exact p.s31s_at (k := 0) hok.2.1
 rw [e0] at x0 x1
 have X0_ : Aside0 (w.cell? ad = some (.int .i64 (p.w : Int))) := ⟨x0⟩
 have X1_ : Aside0 (w.cell? ⟨ad.block, ad.off + 1, none⟩ = some (.int .i64 (p.h : Int))) := ⟨x1⟩
 clear e0 x0 x1 x2
 obtain ⟨b, hb0⟩ : ∃ b, encN p S = b := ⟨_, rfl⟩
 have HBL : Aside0 (b.length ≤ 4194304) := ⟨by rw [← hb0]; exact enc_small hok hS (by rw [← hl]; exact hz)⟩
 have HB0 := Aside0.mk hb0
 have HN := Aside0.mk hn
 have HL := Aside0.mk hl
 have HOK := Aside0.mk hok
 have HS1 := Aside0.mk hS
 have HS2 := Aside0.mk hS2
 have HC := Aside0.mk hC
 have HCAP := Aside0.mk hcap
 have HZ := Aside0.mk hz
 have HS := Aside0.mk hs
 have h0n : (0 < n) = True := eq_true hn0
 have h0n' : ((0 : Int) < (n : Int)) = True := eq_true (by omega)
 have hpo := hok.2.2.2.2 0 hok.2.1
 have HWB : Aside0 (0 < p.w ∧ 0 < p.h ∧ p.w ≤ 1024 ∧ p.h ≤ 1024) := ⟨⟨hpo.1, hpo.2.1, hpo.2.2.1, hpo.2.2.2.1⟩⟩
 obtain ⟨N, hN⟩ : ∃ N, b.length = N := ⟨_, rfl⟩
 have HNB := Aside0.mk hN
 have hNb : N ≤ 4194304 := by rw [← hN]; exact HBL.out
 have HNL := Aside0.mk hNb
 have hN0 : 0 < N := by rw [← hN, ← hb0, enc_len]; omega
 have HN0' := Aside0.mk hN0
 have HXY : Aside0 (X0 < X1 ∧ X1 ≤ p.w ∧ Y0 < Y1 ∧ Y1 ≤ p.h) := ⟨⟨hX, hX1, hY, hY1⟩⟩
 have HWI : Aside0 (withinZ (p.w : Int) (p.h : Int) (X0 : Int) (Y0 : Int) (X1 : Int) (Y1 : Int) = true) := ⟨by unfold withinZ; simp only [Bool.and_eq_true, decide_eq_true_eq]; omega⟩
 obtain ⟨cols, hcols⟩ : ∃ r, acrossN p.w S = r := ⟨_, rfl⟩
 have hcw : cols ≤ 1024 := by rw [← hcols]; exact Nat.le_trans (acrossN_le _ _) hpo.2.2.1
 obtain ⟨l2, hl2⟩ : ∃ r, (p.crop X0 Y0 X1 Y1).s31s = r := ⟨_, rfl⟩
 have HL2 := Aside0.mk hl2
 have hqok : (p.crop X0 Y0 X1 Y1).ok := Pic.crop_ok hok hX hX1 hY hY1
 have HL2N : Aside0 (l2.length = n) := ⟨by rw [← hl2, hqok.len, p.crop_len]; exact hnp.symm⟩
 have HL2L : Aside0 (∀ i : Nat, i < n → (rd_T31 l2 (i : Int)).f2.length < 4611686018427387904) := ⟨fun i hi => by
  have hi2 : i < (p.crop X0 Y0 X1 Y1).ss.length := by rw [p.crop_len, ← hnp]; exact hi
  rw [← hl2, (p.crop X0 Y0 X1 Y1).s31s_at hi2]
  show (ints _).length < _
  rw [ints_length]
  have h1 := (hqok.2.2.2.2 i hi2).2.2.2.2
  have h2 : ((p.crop X0 Y0 X1 Y1).ss.getD i []).length = (p.crop X0 Y0 X1 Y1).w * (p.crop X0 Y0 X1 Y1).h := h1.2.1
  have h3 : (p.crop X0 Y0 X1 Y1).w * (p.crop X0 Y0 X1 Y1).h ≤ 65536 := h1.1
  omega⟩
 have HN62 : Aside0 (n < 4611686018427387904) := ⟨by omega⟩
 obtain ⟨qa, hqa⟩ : ∃ r, X0 / S = r := ⟨_, rfl⟩
 obtain ⟨qb, hqb⟩ : ∃ r, (X1 - 1) / S = r := ⟨_, rfl⟩
 obtain ⟨qc, hqc⟩ : ∃ r, Y0 / S = r := ⟨_, rfl⟩
 obtain ⟨qd, hqd⟩ : ∃ r, (Y1 - 1) / S = r := ⟨_, rfl⟩
 have b1 : qa ≤ qb := by rw [← hqa, ← hqb]; exact Nat.div_le_div_right (by omega)
 have b2 : qc ≤ qd := by rw [← hqc, ← hqd]; exact Nat.div_le_div_right (by omega)
 have b3 : qb ≤ 1024 := by rw [← hqb]; exact Nat.le_trans (Nat.div_le_self _ _) (by have := hpo.2.2.1; have h : p.w ≤ 1024 := this; omega)
 have b4 : qd ≤ 1024 := by rw [← hqd]; exact Nat.le_trans (Nat.div_le_self _ _) (by have := hpo.2.2.2.1; have h : p.h ≤ 1024 := this; omega)
 have b5 : qa ≤ 1024 := by omega
 have b6 : qc ≤ 1024 := by omega
 have HQB := Aside0.mk (And.intro b1 (And.intro b2 (And.intro b3 (And.intro b4 hcw))))
 obtain ⟨ts, hts⟩ : ∃ r, tilesTo cols qa qb qc (qd + 1 - qc) = r := ⟨_, rfl⟩
 have HTS : Aside0 (tilesTo (acrossN p.w S) (X0 / S) ((X1 - 1) / S) (Y0 / S) ((Y1 - 1) / S + 1 - Y0 / S) = ts) := ⟨by rw [hcols, hqa, hqb, hqc, hqd]; exact hts⟩
 have HTS2 := Aside0.mk hts
 obtain ⟨mt, hmt⟩ : ∃ r, ts.length = r := ⟨_, rfl⟩
 have HMT := Aside0.mk hmt
 have HMTB : Aside0 (mt < 4611686018427387904) := ⟨by rw [← hmt, ← hts, tilesTo_len]; have := Nat.mul_le_mul (show qd + 1 - qc ≤ 1025 by omega) (show qb + 1 - qa ≤ 1025 by omega); omega⟩
 obtain ⟨a1, ha1⟩ : ∃ r, p.w + S = r := ⟨_, rfl⟩
 obtain ⟨a2, ha2⟩ : ∃ r, a1 - 1 = r := ⟨_, rfl⟩
 obtain ⟨X1m, hX1m⟩ : ∃ r, X1 - 1 = r := ⟨_, rfl⟩
 obtain ⟨Y1m, hY1m⟩ : ∃ r, Y1 - 1 = r := ⟨_, rfl⟩
 have k1 : p.w ≤ 1024 := hpo.2.2.1
 have k2 : p.h ≤ 1024 := hpo.2.2.2.1
 have FD : Aside0 ((X1 : Int) - 1 = (X1m : Int) ∧ (Y1 : Int) - 1 = (Y1m : Int) ∧ (X0 : Int).tdiv (S : Int) = (qa : Int) ∧ (X1m : Int).tdiv (S : Int) = (qb : Int) ∧ (Y0 : Int).tdiv (S : Int) = (qc : Int) ∧ (Y1m : Int).tdiv (S : Int) = (qd : Int) ∧ (p.w : Int) + (S : Int) = (a1 : Int) ∧ (a1 : Int) - 1 = (a2 : Int) ∧ (a2 : Int).tdiv (S : Int) = (cols : Int) ∧ a1 ≤ 2048 ∧ X1m ≤ 1024 ∧ Y1m ≤ 1024) :=
  ⟨by omega, by omega, by rw [tdivN, hqa], by rw [tdivN, ← hX1m, hqb], by rw [tdivN, hqc], by rw [tdivN, ← hY1m, hqd], by omega, by omega, by rw [tdivN, ← ha2, ← ha1, ← hcols]; rfl, by omega, by omega, by omega⟩
 have s0 : ((S : Int) = 0) = False := eq_false (by omega)
 have s0' : (S = 0) = False := eq_false (by omega)
 clear hqok hnp hn4 hn0 hb0 hn hl hok hS hS2 hC hcap hz hs hpo hN hcols hN0 hl2 hqa hqb hqc hqd hts hmt ha1 ha2 k1 k2 hX1m hY1m hX hX1 hY hY1 hNb b1 b2
 go_enter Try.func11, Try.ntmps11
 go_upto_region 6 with (first | ((with_reducible refine gate_dst (N := 3) rfl ?_); refine box_event ?hg (N := 3) ?hd (cs := #[.int .i64 (p.sp : Int), .slice (some ad) n cap]) (t := 47) ?hr ?_; (case hd => rfl); (case hg => rfl); (case hr => first | (go_simp; done) | (go_simp; rfl)); intro gP hg_ w1 hm_ hb_; have P1 := Aside0.mk (hm_); have B1 := Aside0.mk (hb_); clear hm_ hb_ hg_) | ((with_reducible refine gate_dst (N := 5) rfl ?_); refine box_event ?hg (N := 5) ?hd (cs := #[.int .i64 (X0 : Int), .int .i64 (Y0 : Int), .int .i64 (X1 : Int), .int .i64 (Y1 : Int)]) (t := 73) ?hr ?_; (case hd => rfl); (case hg => rfl); (case hr => first | (go_simp; done) | (go_simp; rfl)); intro gR hg_ w1b hm_ hb_; have P1 := Aside0.mk (blk_below P1.out hb_); have B1 := Aside0.mk (below_step B1.out hb_); have R1 := Aside0.mk hm_; clear hm_ hb_ hg_) | (go_at_call 15; refine (known_calls _).mono ?_; rintro e w2 ⟨rfl, hb⟩; have P2 := Aside0.mk (blk_below P1.out hb); have B2 := Aside0.mk (below_step B1.out hb); have R2 := Aside0.mk (blk_below R1.out hb); have p0 := (blk_cell P2.out 0).trans rfl; have p1 := (blk_cell P2.out 1).trans rfl; clear hb) | (go_at_call 28; with_reducible refine (few_any (p.sp : Int) (some ad) cap n l _ HN.out (Kd.C_below HC.out B2.out) HS.out HZ.out).mono ?_; rintro e w3 ⟨rfl, hb⟩; have P3 := Aside0.mk (blk_below P2.out hb); have B3 := Aside0.mk (below_step B2.out hb); have R3 := Aside0.mk (blk_below R2.out hb); have p0 := (blk_cell P3.out 0).trans rfl; have p1 := (blk_cell P3.out 1).trans rfl; clear hb) | (go_at_call 31; with_reducible refine (Encode_good HL.out HN.out HOK.out HS1.out HS2.out (Kd.C_below HC.out B3.out) HCAP.out HB0.out).mono ?_; rintro e w4 ⟨Ab, cb, rfl, hc_, hC_, hb⟩; have P4 := Aside0.mk (blk_below P3.out hb); have B4 := Aside0.mk (below_step B3.out hb); have R4 := Aside0.mk (blk_below R3.out hb); have D4 := Aside0.mk hC_; have HCB := Aside0.mk hc_; clear hb hc_ hC_))
 clear p0 p1
 have P5 := Aside0.mk (blk_drew P4.out)
 have R5 := Aside0.mk (blk_drew R4.out)
 have D5 := Aside0.mk (Kd.C_drew D4.out)
 have B5 := Aside0.mk (below_drew1 B4.out)
 refine start_ (n := 17) (S := fun w' => w'.cell? ⟨gP, 1, none⟩ = some (.slice (some ad) n cap) ∧ w'.cell? ad = some (.int .i64 (p.w : Int)) ∧ w'.cell? ⟨ad.block, ad.off + 1, none⟩ = some (.int .i64 (p.h : Int)) ∧ w'.cell? ⟨gR, 0, none⟩ = some (.int .i64 (X0 : Int)) ∧ w'.cell? ⟨gR, 1, none⟩ = some (.int .i64 (Y0 : Int)) ∧ w'.cell? ⟨gR, 2, none⟩ = some (.int .i64 (X1 : Int)) ∧ w'.cell? ⟨gR, 3, none⟩ = some (.int .i64 (Y1 : Int))) (ds := []) #[ff_,ff_,ff_,ff_,ff_,ff_,ff_,ff_,ff_,ff_,ff_,ff_,ff_,ff_,ff_,ff_,ff_] (by kernel_rfl) rfl rfl ⟨(blk_cell P5.out 1).trans rfl, cell_on1 B5.out X0_.out, cell_on1 B5.out X1_.out, (blk_cell R5.out 0).trans rfl, (blk_cell R5.out 1).trans rfl, (blk_cell R5.out 2).trans rfl, (blk_cell R5.out 3).trans rfl⟩ (fun hHeld => ?_)
 generalize w4.drew = wd at *
 refine pure_ (i := 0) (N := some 27) (v := ?_) (a' := ?_) #[tt_,ff_,ff_,ff_,ff_,ff_,ff_,ff_,ff_,ff_,ff_,ff_,ff_,ff_,ff_,ff_,ff_] rfl rfl (by kernel_rfl) (fun _ _ _ h => h) (Or.inl ⟨by rfl, ?_⟩) ?_ ?_
 rotate_left
 ·intro w'
  go_simp
  with_reducible rfl
 rotate_left
 ·simp only [Act.put, List.setIfInBounds_toArray, List.set_cons_zero, List.set_cons_succ, i64_w, i32_w]
  rfl
 refine pure_ (i := 1) (N := some 28) (v := ?_) (a' := ?_) #[tt_,tt_,ff_,ff_,ff_,ff_,ff_,ff_,ff_,ff_,ff_,ff_,ff_,ff_,ff_,ff_,ff_] rfl rfl (by kernel_rfl) (fun _ _ _ h => h) (Or.inl ⟨by rfl, ?_⟩) ?_ ?_
 rotate_left
 ·intro w'
  go_simp
  with_reducible rfl
 rotate_left
 ·simp only [Act.put, List.setIfInBounds_toArray, List.set_cons_zero, List.set_cons_succ, i64_w, i32_w]
  rfl
 refine pure_ (i := 2) (N := some 29) (v := ?_) (a' := ?_) #[tt_,tt_,tt_,ff_,ff_,ff_,ff_,ff_,ff_,ff_,ff_,ff_,ff_,ff_,ff_,ff_,ff_] rfl rfl (by kernel_rfl) (fun _ _ _ h => h) (Or.inl ⟨by rfl, ?_⟩) ?_ ?_
 rotate_left
 ·intro w'
  go_simp
  with_reducible rfl
 rotate_left
 ·simp only [Act.put, List.setIfInBounds_toArray, List.set_cons_zero, List.set_cons_succ, i64_w, i32_w]
  rfl
 refine pure_ (i := 3) (N := some 30) (v := ?_) (a' := ?_) #[tt_,tt_,tt_,tt_,ff_,ff_,ff_,ff_,ff_,ff_,ff_,ff_,ff_,ff_,ff_,ff_,ff_] rfl rfl (by kernel_rfl) (fun _ _ _ h => h) (Or.inl ⟨by rfl, ?_⟩) ?_ ?_
 rotate_left
 ·intro w'
  go_simp
  with_reducible rfl
 rotate_left
 ·simp only [Act.put, List.setIfInBounds_toArray, List.set_cons_zero, List.set_cons_succ, i64_w, i32_w]
  rfl
 refine pure_ (i := 8) (N := some 35) (v := ?_) (a' := ?_) #[tt_,tt_,tt_,tt_,ff_,ff_,ff_,ff_,tt_,ff_,ff_,ff_,ff_,ff_,ff_,ff_,ff_] rfl rfl (by kernel_rfl) (fun _ _ _ h => h) (Or.inl ⟨by rfl, ?_⟩) ?_ ?_
 rotate_left
 ·intro w'
  go_simp
  with_reducible rfl
 rotate_left
 ·simp only [Act.put, List.setIfInBounds_toArray, List.set_cons_zero, List.set_cons_succ, i64_w, i32_w]
  rfl
 refine take_ (i := 4) (N := some 31) (v := ?_) (a' := ?_) #[tt_,tt_,tt_,tt_,tt_,ff_,ff_,ff_,tt_,ff_,ff_,ff_,ff_,ff_,ff_,ff_,ff_] rfl rfl (by kernel_rfl) (fun _ _ _ h => h) (Or.inl ⟨by rfl, ?_⟩) hHeld ?_ ?_
 rotate_left
 ·rintro w' ⟨s0, s1, s2, s3, s4, s5, s6⟩
  go_simp
  with_reducible rfl
 rotate_left
 ·simp only [Act.put, List.setIfInBounds_toArray, List.set_cons_zero, List.set_cons_succ, i64_w, i32_w]
  rfl
 refine pure_ (i := 5) (N := some 32) (v := ?_) (a' := ?_) #[tt_,tt_,tt_,tt_,tt_,tt_,ff_,ff_,tt_,ff_,ff_,ff_,ff_,ff_,ff_,ff_,ff_] rfl rfl (by kernel_rfl) (fun _ _ _ h => h) (Or.inl ⟨by rfl, ?_⟩) ?_ ?_
 rotate_left
 ·intro w'
  go_simp
  with_reducible rfl
 rotate_left
 ·simp only [Act.put, List.setIfInBounds_toArray, List.set_cons_zero, List.set_cons_succ, i64_w, i32_w]
  rfl
 refine pure_ (i := 6) (N := some 33) (v := ?_) (a' := ?_) #[tt_,tt_,tt_,tt_,tt_,tt_,tt_,ff_,tt_,ff_,ff_,ff_,ff_,ff_,ff_,ff_,ff_] rfl rfl (by kernel_rfl) (fun _ _ _ h => h) (Or.inl ⟨by rfl, ?_⟩) ?_ ?_
 rotate_left
 ·intro w'
  go_simp
  with_reducible rfl
 rotate_left
 ·simp only [Act.put, List.setIfInBounds_toArray, List.set_cons_zero, List.set_cons_succ, i64_w, i32_w]
  rfl
 refine take_ (i := 7) (N := some 34) (v := ?_) (a' := ?_) #[tt_,tt_,tt_,tt_,tt_,tt_,tt_,tt_,tt_,ff_,ff_,ff_,ff_,ff_,ff_,ff_,ff_] rfl rfl (by kernel_rfl) (fun _ _ _ h => h) (Or.inl ⟨by rfl, ?_⟩) hHeld ?_ ?_
 rotate_left
 ·rintro w' ⟨s0, s1, s2, s3, s4, s5, s6⟩
  go_simp
  with_reducible rfl
 rotate_left
 ·simp only [Act.put, List.setIfInBounds_toArray, List.set_cons_zero, List.set_cons_succ, i64_w, i32_w]
  rfl
 refine take_ (i := 9) (N := some 36) (v := ?_) (a' := ?_) #[tt_,tt_,tt_,tt_,tt_,tt_,tt_,tt_,tt_,tt_,ff_,ff_,ff_,ff_,ff_,ff_,ff_] rfl rfl (by kernel_rfl) (fun _ _ _ h => h) (Or.inl ⟨by rfl, ?_⟩) hHeld ?_ ?_
 rotate_left
 ·rintro w' ⟨s0, s1, s2, s3, s4, s5, s6⟩
  go_simp
  with_reducible rfl
 rotate_left
 ·simp only [Act.put, List.setIfInBounds_toArray, List.set_cons_zero, List.set_cons_succ, i64_w, i32_w]
  rfl
 refine pure_ (i := 10) (N := some 37) (v := ?_) (a' := ?_) #[tt_,tt_,tt_,tt_,tt_,tt_,tt_,tt_,tt_,tt_,tt_,ff_,ff_,ff_,ff_,ff_,ff_] rfl rfl (by kernel_rfl) (fun _ _ _ h => h) (Or.inl ⟨by rfl, ?_⟩) ?_ ?_
 rotate_left
 ·intro w'
  go_simp
  with_reducible rfl
 rotate_left
 ·simp only [Act.put, List.setIfInBounds_toArray, List.set_cons_zero, List.set_cons_succ, i64_w, i32_w]
  rfl
 refine pure_ (i := 11) (N := some 38) (v := ?_) (a' := ?_) #[tt_,tt_,tt_,tt_,tt_,tt_,tt_,tt_,tt_,tt_,tt_,tt_,ff_,ff_,ff_,ff_,ff_] rfl rfl (by kernel_rfl) (fun _ _ _ h => h) (Or.inl ⟨by rfl, ?_⟩) ?_ ?_
 rotate_left
 ·intro w'
  go_simp
  with_reducible rfl
 rotate_left
 ·simp only [Act.put, List.setIfInBounds_toArray, List.set_cons_zero, List.set_cons_succ, i64_w, i32_w]
  rfl
 refine take_ (i := 12) (N := some 39) (v := ?_) (a' := ?_) #[tt_,tt_,tt_,tt_,tt_,tt_,tt_,tt_,tt_,tt_,tt_,tt_,tt_,ff_,ff_,ff_,ff_] rfl rfl (by kernel_rfl) (fun _ _ _ h => h) (Or.inl ⟨by rfl, ?_⟩) hHeld ?_ ?_
 rotate_left
 ·rintro w' ⟨s0, s1, s2, s3, s4, s5, s6⟩
  go_simp
  with_reducible rfl
 rotate_left
 ·simp only [Act.put, List.setIfInBounds_toArray, List.set_cons_zero, List.set_cons_succ, i64_w, i32_w]
  rfl
 refine take_ (i := 13) (N := some 40) (v := ?_) (a' := ?_) #[tt_,tt_,tt_,tt_,tt_,tt_,tt_,tt_,tt_,tt_,tt_,tt_,tt_,tt_,ff_,ff_,ff_] rfl rfl (by kernel_rfl) (fun _ _ _ h => h) (Or.inl ⟨by rfl, ?_⟩) hHeld ?_ ?_
 rotate_left
 ·rintro w' ⟨s0, s1, s2, s3, s4, s5, s6⟩
  go_simp
  with_reducible rfl
 rotate_left
 ·simp only [Act.put, List.setIfInBounds_toArray, List.set_cons_zero, List.set_cons_succ, i64_w, i32_w]
  rfl
 refine one_ (i := 14) (N := some 41) #[tt_,tt_,tt_,tt_,tt_,tt_,tt_,tt_,tt_,tt_,tt_,tt_,tt_,tt_,tt_,ff_,ff_] rfl rfl (by kernel_rfl) (by decide) (fun K hK => ?_)
 refine goes_ Try.func42 (by kernel_rfl) rfl #[.int .i64 (p.w : Int), .int .i64 (p.h : Int), .agg #[.int .i64 (X0 : Int), .int .i64 (Y0 : Int), .int .i64 (X1 : Int), .int .i64 (Y1 : Int)]] (by rfl) rfl rfl (by (try simp only [List.map_toArray, List.map_cons, List.map_nil]); rfl) ?_
 with_reducible refine (Within_calls (p.w : Int) (p.h : Int) (X0 : Int) (Y0 : Int) (X1 : Int) (Y1 : Int) _ HWI.out).mono ?_
 rintro e w6 ⟨rfl, hb⟩
 refine ⟨_, rfl, ?_⟩
 have P6 := Aside0.mk (blk_below P5.out hb)
 have R6 := Aside0.mk (blk_below R5.out hb)
 have D6 := Aside0.mk (Kd.C_below D5.out hb)
 have B6 := Aside0.mk (below_step B5.out hb)
 clear hb
 refine hK.out _ _ ⟨(blk_cell P6.out 1).trans rfl, cell_on1 B6.out X0_.out, cell_on1 B6.out X1_.out, (blk_cell R6.out 0).trans rfl, (blk_cell R6.out 1).trans rfl, (blk_cell R6.out 2).trans rfl, (blk_cell R6.out 3).trans rfl⟩ (fun hHeld => ?_)
 clear hK K
 refine norm_ (a' := ?_) ?_ ?_
 rotate_left
 ·show Act.put _ (some 41) _ = _
  simp only [Act.put, List.setIfInBounds_toArray, List.set_cons_zero, List.set_cons_succ, i64_w, i32_w]
  rfl
 refine pure_ (i := 15) (N := some 42) (v := ?_) (a' := ?_) #[tt_,tt_,tt_,tt_,tt_,tt_,tt_,tt_,tt_,tt_,tt_,tt_,tt_,tt_,tt_,tt_,ff_] rfl rfl (by kernel_rfl) (fun _ _ _ h => h) (Or.inl ⟨by rfl, ?_⟩) ?_ ?_
 rotate_left
 ·intro w'
  go_simp
  with_reducible rfl
 rotate_left
 ·simp only [Act.put, List.setIfInBounds_toArray, List.set_cons_zero, List.set_cons_succ, i64_w, i32_w]
  rfl
 refine pure_ (i := 16) (N := some 43) (v := ?_) (a' := ?_) #[tt_,tt_,tt_,tt_,tt_,tt_,tt_,tt_,tt_,tt_,tt_,tt_,tt_,tt_,tt_,tt_,tt_] rfl rfl (by kernel_rfl) (fun _ _ _ h => h) (Or.inl ⟨by rfl, ?_⟩) ?_ ?_
 rotate_left
 ·intro w'
  go_simp
  with_reducible rfl
 rotate_left
 ·simp only [Act.put, List.setIfInBounds_toArray, List.set_cons_zero, List.set_cons_succ, i64_w, i32_w]
  rfl
 refine done_ (by kernel_rfl) ?_
 clear hHeld P5 R5 D5 B5 P4 R4 D4 B4
 have D6' := Aside0.mk D6.out
 have HCB' := Aside0.mk HCB.out
 rw [HNB.out] at D6' HCB'
 rw [HNB.out]
 have r0 := (blk_cell R6.out 0).trans rfl
 have r1 := (blk_cell R6.out 1).trans rfl
 have r2 := (blk_cell R6.out 2).trans rfl
 have r3 := (blk_cell R6.out 3).trans rfl
 go_upto_region 9 with (first | (go_at_call 40; with_reducible refine (Region_enc HOK.out HS1.out HS2.out HB0.out HNB.out HNP.out.symm HL2.out HTS.out HMT.out D6'.out HCB'.out HNL.out HXY.out.1 HXY.out.2.1 HXY.out.2.2.1 HXY.out.2.2.2).mono ?_; rintro e w7 ⟨aq, cq, Al, cl, rfl, hq_, hQ_, hl_, hL_, hb⟩; have P7 := Aside0.mk (blk_below P6.out hb); have R7 := Aside0.mk (blk_below R6.out hb); have B7 := Aside0.mk (below_step B6.out hb); have Q7 := Aside0.mk hQ_; have HCQ := Aside0.mk hq_; have L7 := Aside0.mk hL_; have HCL := Aside0.mk hl_; clear hb hq_ hQ_ hl_ hL_) | ((with_reducible refine gate_dst (N := 9) rfl ?_); refine box_event ?hg (N := 9) ?hd (cs := #[.int .i64 0, .slice none 0 0]) (t := 47) ?hr ?_; (case hd => rfl); (case hg => rfl); (case hr => first | (go_simp; done) | (go_simp; rfl)); intro gG hg_ w8 hm_ hb_; have X_ := Aside0.mk (put2 (x := .int .i64 (p.sp : Int)) (y := .slice (some aq) n cq) hm_ rfl); have HB_ := Aside0.mk ((show Below w7.heap.size w7 w8 from hb_).trans (X_.out.2.2 _ (by rw [hg_]; exact Nat.le_refl _))); have P9 := Aside0.mk (blk_below P7.out HB_.out); have R9 := Aside0.mk (blk_below R7.out HB_.out); have B9 := Aside0.mk (below_step B7.out HB_.out); have Q9 := Aside0.mk (Kd.C_below Q7.out HB_.out); have L9 := Aside0.mk (Kd.C_below L7.out HB_.out); have G9 := Aside0.mk (X_.out.1); have M_ := Aside0.mk hm_; have o0 := (blk_cell M_.out 0).trans rfl; have o1 := (blk_cell M_.out 1).trans rfl; have fo0 := blk_frozen M_.out 0; have fo1 := blk_frozen M_.out 1; clear hm_ hb_ hg_ X_ HB_ M_))
 generalize (w8.setCell ⟨gG, 0, none⟩ (.int .i64 (p.sp : Int))).setCell ⟨gG, 1, none⟩ (.slice (some aq) n cq) = w9 at *
 clear o0 o1 fo0 fo1 r0 r1 r2 r3 P6 R6 D6 D6' B6 P7 R7 B7 Q7 L7
 have P_ := Aside0.mk (blk_drew P9.out)
 have R_ := Aside0.mk (blk_drew R9.out)
 have G_ := Aside0.mk (blk_drew G9.out)
 have B_ := Aside0.mk (below_drew1 B9.out)
 have Q_ := Aside0.mk (Kd.C_drew Q9.out)
 have L_ := Aside0.mk (Kd.C_drew L9.out)
 refine start_ (n := 10) (S := fun w' => w'.cell? ⟨gG, 0, none⟩ = some (.int .i64 (p.sp : Int)) ∧ w'.cell? ⟨gG, 1, none⟩ = some (.slice (some aq) n cq) ∧ w'.cell? ⟨gP, 0, none⟩ = some (.int .i64 (p.sp : Int)) ∧ w'.cell? ⟨gP, 1, none⟩ = some (.slice (some ad) n cap) ∧ w'.cell? ⟨gR, 0, none⟩ = some (.int .i64 (X0 : Int)) ∧ w'.cell? ⟨gR, 1, none⟩ = some (.int .i64 (Y0 : Int)) ∧ w'.cell? ⟨gR, 2, none⟩ = some (.int .i64 (X1 : Int)) ∧ w'.cell? ⟨gR, 3, none⟩ = some (.int .i64 (Y1 : Int))) (ds := []) #[ff_,ff_,ff_,ff_,ff_,ff_,ff_,ff_,ff_,ff_] (by kernel_rfl) rfl rfl ⟨(blk_cell G_.out 0).trans rfl, (blk_cell G_.out 1).trans rfl, (blk_cell P_.out 0).trans rfl, (blk_cell P_.out 1).trans rfl, (blk_cell R_.out 0).trans rfl, (blk_cell R_.out 1).trans rfl, (blk_cell R_.out 2).trans rfl, (blk_cell R_.out 3).trans rfl⟩ (fun hHeld => ?_)
 generalize w9.drew = wd at *
 refine pure_ (i := 0) (N := some 51) (v := ?_) (a' := ?_) #[tt_,ff_,ff_,ff_,ff_,ff_,ff_,ff_,ff_,ff_] rfl rfl (by kernel_rfl) (fun _ _ _ h => h) (Or.inl ⟨by rfl, ?_⟩) ?_ ?_
 rotate_left
 ·intro w'
  go_simp
  with_reducible rfl
 rotate_left
 ·simp only [Act.put, List.setIfInBounds_toArray, List.set_cons_zero, List.set_cons_succ, i64_w, i32_w]
  rfl
 refine pure_ (i := 1) (N := some 52) (v := ?_) (a' := ?_) #[tt_,tt_,ff_,ff_,ff_,ff_,ff_,ff_,ff_,ff_] rfl rfl (by kernel_rfl) (fun _ _ _ h => h) (Or.inl ⟨by rfl, ?_⟩) ?_ ?_
 rotate_left
 ·intro w'
  go_simp
  with_reducible rfl
 rotate_left
 ·simp only [Act.put, List.setIfInBounds_toArray, List.set_cons_zero, List.set_cons_succ, i64_w, i32_w]
  rfl
 refine pure_ (i := 2) (N := some 53) (v := ?_) (a' := ?_) #[tt_,tt_,tt_,ff_,ff_,ff_,ff_,ff_,ff_,ff_] rfl rfl (by kernel_rfl) (fun _ _ _ h => h) (Or.inl ⟨by rfl, ?_⟩) ?_ ?_
 rotate_left
 ·intro w'
  go_simp
  with_reducible rfl
 rotate_left
 ·simp only [Act.put, List.setIfInBounds_toArray, List.set_cons_zero, List.set_cons_succ, i64_w, i32_w]
  rfl
 refine take_ (i := 3) (N := some 54) (v := ?_) (a' := ?_) #[tt_,tt_,tt_,tt_,ff_,ff_,ff_,ff_,ff_,ff_] rfl rfl (by kernel_rfl) (fun _ _ _ h => h) (Or.inl ⟨by rfl, ?_⟩) hHeld ?_ ?_
 rotate_left
 ·rintro w' ⟨s0, s1, s2, s3, s4, s5, s6, s7⟩
  go_simp
  with_reducible rfl
 rotate_left
 ·simp only [Act.put, List.setIfInBounds_toArray, List.set_cons_zero, List.set_cons_succ, i64_w, i32_w]
  rfl
 refine take_ (i := 4) (N := some 55) (v := ?_) (a' := ?_) #[tt_,tt_,tt_,tt_,tt_,ff_,ff_,ff_,ff_,ff_] rfl rfl (by kernel_rfl) (fun _ _ _ h => h) (Or.inl ⟨by rfl, ?_⟩) hHeld ?_ ?_
 rotate_left
 ·rintro w' ⟨s0, s1, s2, s3, s4, s5, s6, s7⟩
  go_simp
  with_reducible rfl
 rotate_left
 ·simp only [Act.put, List.setIfInBounds_toArray, List.set_cons_zero, List.set_cons_succ, i64_w, i32_w]
  rfl
 refine take_ (i := 5) (N := some 56) (v := ?_) (a' := ?_) #[tt_,tt_,tt_,tt_,tt_,tt_,ff_,ff_,ff_,ff_] rfl rfl (by kernel_rfl) (fun _ _ _ h => h) (Or.inl ⟨by rfl, ?_⟩) hHeld ?_ ?_
 rotate_left
 ·rintro w' ⟨s0, s1, s2, s3, s4, s5, s6, s7⟩
  go_simp
  with_reducible rfl
 rotate_left
 ·simp only [Act.put, List.setIfInBounds_toArray, List.set_cons_zero, List.set_cons_succ, i64_w, i32_w]
  rfl
 refine one_ (i := 6) (N := some 57) #[tt_,tt_,tt_,tt_,tt_,tt_,tt_,ff_,ff_,ff_] rfl rfl (by kernel_rfl) (by decide) (fun K hK => ?_)
 refine goes_ Try.func43 (by kernel_rfl) rfl #[.agg #[.int .i64 (p.sp : Int), .slice (some ad) n cap], .agg #[.int .i64 (X0 : Int), .int .i64 (Y0 : Int), .int .i64 (X1 : Int), .int .i64 (Y1 : Int)]] (by rfl) rfl rfl (by (try simp only [List.map_toArray, List.map_cons, List.map_nil]); rfl) ?_
 with_reducible refine (CropPic_calls HL.out HN.out HOK.out (Kd.C_below HC.out B_.out) HCAP.out HXY.out.1 HXY.out.2.1 HXY.out.2.2.1 HXY.out.2.2.2 HL2.out).mono ?_
 rintro e w10 ⟨a10, c10, rfl, hc_, hC_, hb⟩
 refine ⟨_, rfl, ?_⟩
 have P10 := Aside0.mk (blk_below P_.out hb)
 have R10 := Aside0.mk (blk_below R_.out hb)
 have G10 := Aside0.mk (blk_below G_.out hb)
 have B10 := Aside0.mk (below_step B_.out hb)
 have Q10 := Aside0.mk (Kd.C_below Q_.out hb)
 have L10 := Aside0.mk (Kd.C_below L_.out hb)
 have K10 := Aside0.mk hC_
 clear hb hc_ hC_
 refine hK.out _ _ ⟨(blk_cell G10.out 0).trans rfl, (blk_cell G10.out 1).trans rfl, (blk_cell P10.out 0).trans rfl, (blk_cell P10.out 1).trans rfl, (blk_cell R10.out 0).trans rfl, (blk_cell R10.out 1).trans rfl, (blk_cell R10.out 2).trans rfl, (blk_cell R10.out 3).trans rfl⟩ (fun hHeld => ?_)
 clear hK K
 refine norm_ (a' := ?_) ?_ ?_
 rotate_left
 ·show Act.put _ (some 57) _ = _
  simp only [Act.put, List.setIfInBounds_toArray, List.set_cons_zero, List.set_cons_succ, i64_w, i32_w]
  rfl
 refine one_ (i := 7) (N := some 58) #[tt_,tt_,tt_,tt_,tt_,tt_,tt_,tt_,ff_,ff_] rfl rfl (by kernel_rfl) (by decide) (fun K hK => ?_)
 refine goes_ Try.func32 (by kernel_rfl) rfl #[.agg #[.int .i64 (p.sp : Int), .slice (some aq) n cq], .agg #[.int .i64 (p.sp : Int), .slice (some a10) n c10]] (by rfl) rfl rfl (by (try simp only [List.map_toArray, List.map_cons, List.map_nil]); rfl) ?_
 with_reducible refine (picture_self (p.sp : Int) (some aq) (some a10) cq c10 n l2 _ HL2N.out Q10.out K10.out HN62.out HL2L.out).mono ?_
 rintro e w11 ⟨rfl, hb⟩
 refine ⟨_, rfl, ?_⟩
 have P11 := Aside0.mk (blk_below P10.out hb)
 have R11 := Aside0.mk (blk_below R10.out hb)
 have G11 := Aside0.mk (blk_below G10.out hb)
 have B11 := Aside0.mk (below_step B10.out hb)
 have Q11 := Aside0.mk (Kd.C_below Q10.out hb)
 have L11 := Aside0.mk (Kd.C_below L10.out hb)
 clear hb K10 P10 R10 G10 B10 Q10 L10
 refine hK.out _ _ ⟨(blk_cell G11.out 0).trans rfl, (blk_cell G11.out 1).trans rfl, (blk_cell P11.out 0).trans rfl, (blk_cell P11.out 1).trans rfl, (blk_cell R11.out 0).trans rfl, (blk_cell R11.out 1).trans rfl, (blk_cell R11.out 2).trans rfl, (blk_cell R11.out 3).trans rfl⟩ (fun hHeld => ?_)
 clear hK K
 refine norm_ (a' := ?_) ?_ ?_
 rotate_left
 ·show Act.put _ (some 58) _ = _
  simp only [Act.put, List.setIfInBounds_toArray, List.set_cons_zero, List.set_cons_succ, i64_w, i32_w]
  rfl
 refine pure_ (i := 8) (N := some 59) (v := ?_) (a' := ?_) #[tt_,tt_,tt_,tt_,tt_,tt_,tt_,tt_,tt_,ff_] rfl rfl (by kernel_rfl) (fun _ _ _ h => h) (Or.inl ⟨by rfl, ?_⟩) ?_ ?_
 rotate_left
 ·intro w'
  go_simp
  with_reducible rfl
 rotate_left
 ·simp only [Act.put, List.setIfInBounds_toArray, List.set_cons_zero, List.set_cons_succ, i64_w, i32_w]
  rfl
 refine pure_ (i := 9) (N := some 60) (v := ?_) (a' := ?_) #[tt_,tt_,tt_,tt_,tt_,tt_,tt_,tt_,tt_,tt_] rfl rfl (by kernel_rfl) (fun _ _ _ h => h) (Or.inl ⟨by rfl, ?_⟩) ?_ ?_
 rotate_left
 ·intro w'
  go_simp
  with_reducible rfl
 rotate_left
 ·simp only [Act.put, List.setIfInBounds_toArray, List.set_cons_zero, List.set_cons_succ, i64_w, i32_w]
  rfl
 refine done_ (by kernel_rfl) ?_
 clear hHeld P9 R9 G9 B9 Q9 L9 P_ R_ G_ B_ Q_ L_
 have p1 := (blk_cell P11.out 1).trans rfl
 have z0 := cell_on1 B11.out X0_.out
 have r1 := (blk_cell R11.out 1).trans rfl
 obtain ⟨f1, f2, f3, f4, f5, f6, f7, f8, f9, f10, f11, f12⟩ := FD.out
 go_wp2
 clear p1 z0 r1 f1 f2 f3 f4 f5 f6 f7 f8 f9 f10 f11 f12
 go_loopw [12, 14] (fun v12 v14 W' => ∃ (j yy : Nat), j ≤ qd + 1 - qc ∧ v14 = .int .i64 (yy : Int) ∧ Aside0 (yy = qc + j) ∧ Aside0 ((nat .i64).R 3 W' w11.heap.size (fun _ => True) v12 (tilesTo cols qa qb qc j) ∧ Below w11.heap.size w11 W')) (fun _ v _ => qd + 1 - (intOf v).toNat)
 case atStart => exact ⟨0, qc, Nat.zero_le _, rfl, ⟨rfl⟩, ⟨Kd.R_nil _ _ _ _ _, Below.refl _ _⟩⟩
 case round =>
  obtain ⟨j, yy, hj, rfl, HY, HI⟩ := hrel
  have hqb := HQB.out
  have hy := HY.out
  have r3 := (blk_cell (blk_below R11.out HI.out.2) 3).trans rfl
  have f2 := FD.out.2.1
  have f6 := FD.out.2.2.2.2.2.1
  have f12 := FD.out.2.2.2.2.2.2.2.2.2.2.2
  by_cases hlt : j < qd + 1 - qc
  ·have c1 : decide ((yy : Int) ≤ (qd : Int)) = true := decide_eq_true (by omega)
   have c2 : decide (yy ≤ qd) = true := decide_eq_true (by omega)
   have hyb : yy ≤ 1024 := by omega
   have HLT := Aside0.mk hlt
   have r0 := (blk_cell (blk_below R11.out HI.out.2) 0).trans rfl
   have f3 := FD.out.2.2.1
   have hcb : cols ≤ 1024 := hqb.2.2.2.2
   obtain ⟨yc, hyc⟩ : ∃ r, yy * cols = r := ⟨_, rfl⟩
   have hycb : yc ≤ 1048576 := by rw [← hyc]; exact Nat.mul_le_mul hyb hcb
   have HYC := Aside0.mk hyc
   have hb3 : qb ≤ 1024 := hqb.2.2.1
   clear hqb hy hlt hyc hj
   go_wp2
   clear r3 r0 c1 c2 f2 f6 f12 f3
   go_loopw [12, 15] (fun v12 v15 W' => ∃ (i xx : Nat), i ≤ qb + 1 - qa ∧ v15 = .int .i64 (xx : Int) ∧ Aside0 (xx = qa + i) ∧ Aside0 ((nat .i64).R 3 W' w11.heap.size (fun _ => True) v12 (tilesTo cols qa qb qc j ++ (List.range i).map (fun x => (qc + j) * cols + (qa + x))) ∧ Below w11.heap.size w11 W')) (fun _ v _ => qb + 1 - (intOf v).toNat)
   case atStart => exact ⟨0, qa, Nat.zero_le _, rfl, ⟨rfl⟩, ⟨by rw [List.range_zero, List.map_nil, List.append_nil]; exact HI.out.1, HI.out.2⟩⟩
   case round =>
    clear HI
    obtain ⟨i, xx, hi, rfl, HX, HI⟩ := hrel
    have hqb := HQB.out
    have hx := HX.out
    have r2 := (blk_cell (blk_below R11.out HI.out.2) 2).trans rfl
    have f1 := FD.out.1
    have f4 := FD.out.2.2.2.1
    have f11 := FD.out.2.2.2.2.2.2.2.2.2.2.1
    by_cases hlt : i < qb + 1 - qa
    ·have c1 : decide ((xx : Int) ≤ (qb : Int)) = true := decide_eq_true (by omega)
     have c2 : decide (xx ≤ qb) = true := decide_eq_true (by omega)
     have hxb : xx ≤ 1024 := by omega
     obtain ⟨tt, htt⟩ : ∃ r, yc + xx = r := ⟨_, rfl⟩
     have e1 : (yc : Int) + (xx : Int) = (tt : Int) := by omega
     have hj2 : j ≤ 1025 := by have := HLT.out; omega
     have HSU : Aside0 ((tilesTo cols qa qb qc j ++ (List.range i).map (fun x => (qc + j) * cols + (qa + x))) ++ [tt] = tilesTo cols qa qb qc j ++ (List.range (i + 1)).map (fun x => (qc + j) * cols + (qa + x))) := ⟨by
      rw [List.range_succ, List.map_append, List.append_assoc]
      congr 2
      show [tt] = [(qc + j) * cols + (qa + i)]
      rw [← HY.out, HYC.out, ← hx, htt]⟩
     have HLN : Aside0 (((tilesTo cols qa qb qc j ++ (List.range i).map (fun x => (qc + j) * cols + (qa + x))).length + 1) * 8 ≤ 140737488355328) := ⟨by
      rw [List.length_append, tilesTo_len, List.length_map, List.length_range]
      have := Nat.mul_le_mul hj2 (show qb + 1 - qa ≤ 1025 by omega)
      omega⟩
     have HLT2 := Aside0.mk hlt
     have m1' := (mul_facts HYC.out (by omega)).2
     clear hqb hx hlt htt hj2 hi
     go_wp2_with ((with_reducible refine gate_builtin (b := .append) (xs := #[.tmp 97, .tmp 103]) rfl ?_); at_builtin; refine Kd.R_append (nat .i64) (w0 := w11) w11.heap.size rfl (.tmp 97) (.tmp 103) 62 3 (.int .i64 0) 8 rfl Try.underlying62 info3 rfl (by decide) (by decide) u12 (tilesTo cols qa qb qc j ++ (List.range i).map (fun x => (qc + j) * cols + (qa + x))) tt [.int .i64 (tt : Int)] (fun _ => True) (fun _ => False) rfl rfl rfl (fun _ hk => hk.elim) (fun _ _ => trivial) HI.out.1 HI.out.2 ?aS ?aL ?_; (case aS => exact HI.out.2.size); (case aL => exact HLN.out); intro v7 w7 hR hB hg hat; rw [HSU.out] at hR; have I7 := Aside0.mk (And.intro hR hB); clear hR hB hg hat m1' r2)
     have hlt := HLT2.out
     obtain ⟨x2, hx2⟩ : ∃ r, xx + 1 = r := ⟨_, rfl⟩
     have e2 : (xx : Int) + 1 = (x2 : Int) := by omega
     have HX2 : Aside0 (x2 = qa + (i + 1)) := ⟨by have := HX.out; omega⟩
     go_roundw
     case measure => simp [intOf]; have := HX.out; omega
     case rel => exact ⟨i + 1, xx + 1, by omega, by go_num, ⟨by have := HX.out; omega⟩, I7⟩
    ·obtain rfl : i = qb + 1 - qa := by omega
     have c1 : decide ((xx : Int) ≤ (qb : Int)) = false := decide_eq_false (by omega)
     have c2 : decide (xx ≤ qb) = false := decide_eq_false (by omega)
     rw [tilesTo_snoc] at HI
     clear hlt hqb hx hi
     go_wp2
     have hlt := HLT.out
     go_roundw
     case measure => simp [intOf]; have := HY.out; omega
     case rel => exact ⟨j + 1, yy + 1, by omega, by go_num, ⟨by have := HY.out; omega⟩, HI⟩
  ·obtain rfl : j = qd + 1 - qc := by omega
   have c1 : decide ((yy : Int) ≤ (qd : Int)) = false := decide_eq_false (by omega)
   have c2 : decide (yy ≤ qd) = false := decide_eq_false (by omega)
   rw [HTS2.out] at HI
   obtain ⟨A12, c12, rfl, h12, hC12⟩ := Kd.R_reads HI.out.1
   have HL12 := Aside0.mk (Kd.C_below L11.out HI.out.2)
   have B12 := Aside0.mk (B11.out.trans (HI.out.2.mono (below_size B11.out)))
   have HC12 := Aside0.mk hC12
   have H12 := Aside0.mk h12
   clear hlt hqb hy h12 hC12 hj
   rw [HMT.out] at HC12 H12
   rw [HMT.out] at HI
   rw [HMT.out]
   go_wp2_with ((go_at_call 41; with_reducible refine (ints_true HMT.out HMT.out rfl HL12.out HC12.out HCL.out H12.out HMTB.out).mono ?_; rintro e w13 ⟨rfl, hb⟩; have BZ := Aside0.mk (below_step B12.out hb); clear hb))
   go_ret
   exact ⟨rfl, BZ.out⟩
set_option maxHeartbeats 16000000 in
set_option maxRecDepth 100000 in
theorem codecCrop2 (p : Pic) (S : Nat) (A : Option Addr) (cap n : Nat) (l : List S31) (zx0 zy0 zx1 zy1 : Int) (w : World) (hn : l.length = n) (hl : l = p.s31s) (hok : p.ok) (hS : 1 ≤ S) (hS2 : S ≤ 1024) (hC : Kd.C k31 w A n l) (hcap : n ≤ cap) (hz : fewB l = true) (hs : fewTo l (min n 100) < 4611686018427387904) (hw : withinZ (p.w : Int) (p.h : Int) zx0 zy0 zx1 zy1 = false) :
    Calls Try.prog 11 #[.agg #[.int .i64 (p.sp : Int), .slice A n cap], .int .i64 (S : Int), .agg #[.int .i64 zx0, .int .i64 zy0, .int .i64 zx1, .int .i64 zy1]] w fun e w' => e = .returned (.bool true) ∧ Below w.heap.size w w' := by
 have hu47 := Try.underlying47
 have hu31 := Try.underlying31
 have hu73 := Try.underlying73
 have hnp : n = p.ss.length := by rw [← hn, hl, hok.len]
 have hn0 : 0 < n := by rw [hnp]; exact hok.2.1
 have hn4 : n ≤ 4 := by rw [hnp]; exact hok.2.2.1
 have HNP := Aside0.mk hnp
 have HN0 := Aside0.mk (And.intro hn0 hn4)
 obtain ⟨ad, A0, c0, rfl, x0, x1, x2, _, _⟩ := at_T31 hC 0 (by omega) (by omega)
 have e0 : rd_T31 l 0 = ⟨(p.w : Int), (p.h : Int), ints (p.ss.getD 0 [])⟩ := by rw [hl]; exact p.s31s_at (k := 0) hok.2.1
 rw [e0] at x0 x1
 have X0_ : Aside0 (w.cell? ad = some (.int .i64 (p.w : Int))) := ⟨x0⟩
 have X1_ : Aside0 (w.cell? ⟨ad.block, ad.off + 1, none⟩ = some (.int .i64 (p.h : Int))) := ⟨x1⟩
 clear e0 x0 x1 x2
 obtain ⟨b, hb0⟩ : ∃ b, encN p S = b := ⟨_, rfl⟩
 have HBL : Aside0 (b.length ≤ 4194304) := ⟨by rw [← hb0]; exact enc_small hok hS (by rw [← hl]; exact hz)⟩
 have HB0 := Aside0.mk hb0
 have HN := Aside0.mk hn
 have HL := Aside0.mk hl
 have HOK := Aside0.mk hok
 have HS1 := Aside0.mk hS
 have HS2 := Aside0.mk hS2
 have HC := Aside0.mk hC
 have HCAP := Aside0.mk hcap
 have HZ := Aside0.mk hz
 have HS := Aside0.mk hs
 have h0n : (0 < n) = True := eq_true hn0
 have h0n' : ((0 : Int) < (n : Int)) = True := eq_true (by omega)
 have hpo := hok.2.2.2.2 0 hok.2.1
 have HWB : Aside0 (0 < p.w ∧ 0 < p.h ∧ p.w ≤ 1024 ∧ p.h ≤ 1024) := ⟨⟨hpo.1, hpo.2.1, hpo.2.2.1, hpo.2.2.2.1⟩⟩
 have HWI := Aside0.mk hw
 clear hnp hn4 hn0 hb0 hn hl hok hS hS2 hC hcap hz hs hpo hw
 go_enter Try.func11, Try.ntmps11
 go_upto_region 6 with (first | ((with_reducible refine gate_dst (N := 3) rfl ?_); refine box_event ?hg (N := 3) ?hd (cs := #[.int .i64 (p.sp : Int), .slice (some ad) n cap]) (t := 47) ?hr ?_; (case hd => rfl); (case hg => rfl); (case hr => first | (go_simp; done) | (go_simp; rfl)); intro gP hg_ w1 hm_ hb_; have P1 := Aside0.mk (hm_); have B1 := Aside0.mk (hb_); clear hm_ hb_ hg_) | ((with_reducible refine gate_dst (N := 5) rfl ?_); refine box_event ?hg (N := 5) ?hd (cs := #[.int .i64 zx0, .int .i64 zy0, .int .i64 zx1, .int .i64 zy1]) (t := 73) ?hr ?_; (case hd => rfl); (case hg => rfl); (case hr => first | (go_simp; done) | (go_simp; rfl)); intro gR hg_ w1b hm_ hb_; have P1 := Aside0.mk (blk_below P1.out hb_); have B1 := Aside0.mk (below_step B1.out hb_); have R1 := Aside0.mk hm_; clear hm_ hb_ hg_) | (go_at_call 15; refine (known_calls _).mono ?_; rintro e w2 ⟨rfl, hb⟩; have P2 := Aside0.mk (blk_below P1.out hb); have B2 := Aside0.mk (below_step B1.out hb); have R2 := Aside0.mk (blk_below R1.out hb); have p0 := (blk_cell P2.out 0).trans rfl; have p1 := (blk_cell P2.out 1).trans rfl; clear hb) | (go_at_call 28; with_reducible refine (few_any (p.sp : Int) (some ad) cap n l _ HN.out (Kd.C_below HC.out B2.out) HS.out HZ.out).mono ?_; rintro e w3 ⟨rfl, hb⟩; have P3 := Aside0.mk (blk_below P2.out hb); have B3 := Aside0.mk (below_step B2.out hb); have R3 := Aside0.mk (blk_below R2.out hb); have p0 := (blk_cell P3.out 0).trans rfl; have p1 := (blk_cell P3.out 1).trans rfl; clear hb) | (go_at_call 31; with_reducible refine (Encode_good HL.out HN.out HOK.out HS1.out HS2.out (Kd.C_below HC.out B3.out) HCAP.out HB0.out).mono ?_; rintro e w4 ⟨Ab, cb, rfl, hc_, hC_, hb⟩; have P4 := Aside0.mk (blk_below P3.out hb); have B4 := Aside0.mk (below_step B3.out hb); have R4 := Aside0.mk (blk_below R3.out hb); have D4 := Aside0.mk hC_; have HCB := Aside0.mk hc_; clear hb hc_ hC_))
 clear p0 p1
 have P5 := Aside0.mk (blk_drew P4.out)
 have R5 := Aside0.mk (blk_drew R4.out)
 have D5 := Aside0.mk (Kd.C_drew D4.out)
 have B5 := Aside0.mk (below_drew1 B4.out)
 refine start_ (n := 17) (S := fun w' => w'.cell? ⟨gP, 1, none⟩ = some (.slice (some ad) n cap) ∧ w'.cell? ad = some (.int .i64 (p.w : Int)) ∧ w'.cell? ⟨ad.block, ad.off + 1, none⟩ = some (.int .i64 (p.h : Int)) ∧ w'.cell? ⟨gR, 0, none⟩ = some (.int .i64 zx0) ∧ w'.cell? ⟨gR, 1, none⟩ = some (.int .i64 zy0) ∧ w'.cell? ⟨gR, 2, none⟩ = some (.int .i64 zx1) ∧ w'.cell? ⟨gR, 3, none⟩ = some (.int .i64 zy1)) (ds := []) #[ff_,ff_,ff_,ff_,ff_,ff_,ff_,ff_,ff_,ff_,ff_,ff_,ff_,ff_,ff_,ff_,ff_] (by kernel_rfl) rfl rfl ⟨(blk_cell P5.out 1).trans rfl, cell_on1 B5.out X0_.out, cell_on1 B5.out X1_.out, (blk_cell R5.out 0).trans rfl, (blk_cell R5.out 1).trans rfl, (blk_cell R5.out 2).trans rfl, (blk_cell R5.out 3).trans rfl⟩ (fun hHeld => ?_)
 generalize w4.drew = wd at *
 refine pure_ (i := 0) (N := some 27) (v := ?_) (a' := ?_) #[tt_,ff_,ff_,ff_,ff_,ff_,ff_,ff_,ff_,ff_,ff_,ff_,ff_,ff_,ff_,ff_,ff_] rfl rfl (by kernel_rfl) (fun _ _ _ h => h) (Or.inl ⟨by rfl, ?_⟩) ?_ ?_
 rotate_left
 ·intro w'
  go_simp
  with_reducible rfl
 rotate_left
 ·simp only [Act.put, List.setIfInBounds_toArray, List.set_cons_zero, List.set_cons_succ, i64_w, i32_w]
  rfl
 refine pure_ (i := 1) (N := some 28) (v := ?_) (a' := ?_) #[tt_,tt_,ff_,ff_,ff_,ff_,ff_,ff_,ff_,ff_,ff_,ff_,ff_,ff_,ff_,ff_,ff_] rfl rfl (by kernel_rfl) (fun _ _ _ h => h) (Or.inl ⟨by rfl, ?_⟩) ?_ ?_
 rotate_left
 ·intro w'
  go_simp
  with_reducible rfl
 rotate_left
 ·simp only [Act.put, List.setIfInBounds_toArray, List.set_cons_zero, List.set_cons_succ, i64_w, i32_w]
  rfl
 refine pure_ (i := 2) (N := some 29) (v := ?_) (a' := ?_) #[tt_,tt_,tt_,ff_,ff_,ff_,ff_,ff_,ff_,ff_,ff_,ff_,ff_,ff_,ff_,ff_,ff_] rfl rfl (by kernel_rfl) (fun _ _ _ h => h) (Or.inl ⟨by rfl, ?_⟩) ?_ ?_
 rotate_left
 ·intro w'
  go_simp
  with_reducible rfl
 rotate_left
 ·simp only [Act.put, List.setIfInBounds_toArray, List.set_cons_zero, List.set_cons_succ, i64_w, i32_w]
  rfl
 refine pure_ (i := 3) (N := some 30) (v := ?_) (a' := ?_) #[tt_,tt_,tt_,tt_,ff_,ff_,ff_,ff_,ff_,ff_,ff_,ff_,ff_,ff_,ff_,ff_,ff_] rfl rfl (by kernel_rfl) (fun _ _ _ h => h) (Or.inl ⟨by rfl, ?_⟩) ?_ ?_
 rotate_left
 ·intro w'
  go_simp
  with_reducible rfl
 rotate_left
 ·simp only [Act.put, List.setIfInBounds_toArray, List.set_cons_zero, List.set_cons_succ, i64_w, i32_w]
  rfl
 refine pure_ (i := 8) (N := some 35) (v := ?_) (a' := ?_) #[tt_,tt_,tt_,tt_,ff_,ff_,ff_,ff_,tt_,ff_,ff_,ff_,ff_,ff_,ff_,ff_,ff_] rfl rfl (by kernel_rfl) (fun _ _ _ h => h) (Or.inl ⟨by rfl, ?_⟩) ?_ ?_
 rotate_left
 ·intro w'
  go_simp
  with_reducible rfl
 rotate_left
 ·simp only [Act.put, List.setIfInBounds_toArray, List.set_cons_zero, List.set_cons_succ, i64_w, i32_w]
  rfl
 refine take_ (i := 4) (N := some 31) (v := ?_) (a' := ?_) #[tt_,tt_,tt_,tt_,tt_,ff_,ff_,ff_,tt_,ff_,ff_,ff_,ff_,ff_,ff_,ff_,ff_] rfl rfl (by kernel_rfl) (fun _ _ _ h => h) (Or.inl ⟨by rfl, ?_⟩) hHeld ?_ ?_
 rotate_left
 ·rintro w' ⟨s0, s1, s2, s3, s4, s5, s6⟩
  go_simp
  with_reducible rfl
 rotate_left
 ·simp only [Act.put, List.setIfInBounds_toArray, List.set_cons_zero, List.set_cons_succ, i64_w, i32_w]
  rfl
 refine pure_ (i := 5) (N := some 32) (v := ?_) (a' := ?_) #[tt_,tt_,tt_,tt_,tt_,tt_,ff_,ff_,tt_,ff_,ff_,ff_,ff_,ff_,ff_,ff_,ff_] rfl rfl (by kernel_rfl) (fun _ _ _ h => h) (Or.inl ⟨by rfl, ?_⟩) ?_ ?_
 rotate_left
 ·intro w'
  go_simp
  with_reducible rfl
 rotate_left
 ·simp only [Act.put, List.setIfInBounds_toArray, List.set_cons_zero, List.set_cons_succ, i64_w, i32_w]
  rfl
 refine pure_ (i := 6) (N := some 33) (v := ?_) (a' := ?_) #[tt_,tt_,tt_,tt_,tt_,tt_,tt_,ff_,tt_,ff_,ff_,ff_,ff_,ff_,ff_,ff_,ff_] rfl rfl (by kernel_rfl) (fun _ _ _ h => h) (Or.inl ⟨by rfl, ?_⟩) ?_ ?_
 rotate_left
 ·intro w'
  go_simp
  with_reducible rfl
 rotate_left
 ·simp only [Act.put, List.setIfInBounds_toArray, List.set_cons_zero, List.set_cons_succ, i64_w, i32_w]
  rfl
 refine take_ (i := 7) (N := some 34) (v := ?_) (a' := ?_) #[tt_,tt_,tt_,tt_,tt_,tt_,tt_,tt_,tt_,ff_,ff_,ff_,ff_,ff_,ff_,ff_,ff_] rfl rfl (by kernel_rfl) (fun _ _ _ h => h) (Or.inl ⟨by rfl, ?_⟩) hHeld ?_ ?_
 rotate_left
 ·rintro w' ⟨s0, s1, s2, s3, s4, s5, s6⟩
  go_simp
  with_reducible rfl
 rotate_left
 ·simp only [Act.put, List.setIfInBounds_toArray, List.set_cons_zero, List.set_cons_succ, i64_w, i32_w]
  rfl
 refine take_ (i := 9) (N := some 36) (v := ?_) (a' := ?_) #[tt_,tt_,tt_,tt_,tt_,tt_,tt_,tt_,tt_,tt_,ff_,ff_,ff_,ff_,ff_,ff_,ff_] rfl rfl (by kernel_rfl) (fun _ _ _ h => h) (Or.inl ⟨by rfl, ?_⟩) hHeld ?_ ?_
 rotate_left
 ·rintro w' ⟨s0, s1, s2, s3, s4, s5, s6⟩
  go_simp
  with_reducible rfl
 rotate_left
 ·simp only [Act.put, List.setIfInBounds_toArray, List.set_cons_zero, List.set_cons_succ, i64_w, i32_w]
  rfl
 refine pure_ (i := 10) (N := some 37) (v := ?_) (a' := ?_) #[tt_,tt_,tt_,tt_,tt_,tt_,tt_,tt_,tt_,tt_,tt_,ff_,ff_,ff_,ff_,ff_,ff_] rfl rfl (by kernel_rfl) (fun _ _ _ h => h) (Or.inl ⟨by rfl, ?_⟩) ?_ ?_
 rotate_left
 ·intro w'
  go_simp
  with_reducible rfl
 rotate_left
 ·simp only [Act.put, List.setIfInBounds_toArray, List.set_cons_zero, List.set_cons_succ, i64_w, i32_w]
  rfl
 refine pure_ (i := 11) (N := some 38) (v := ?_) (a' := ?_) #[tt_,tt_,tt_,tt_,tt_,tt_,tt_,tt_,tt_,tt_,tt_,tt_,ff_,ff_,ff_,ff_,ff_] rfl rfl (by kernel_rfl) (fun _ _ _ h => h) (Or.inl ⟨by rfl, ?_⟩) ?_ ?_
 rotate_left
 ·intro w'
  go_simp
  with_reducible rfl
 rotate_left
 ·simp only [Act.put, List.setIfInBounds_toArray, List.set_cons_zero, List.set_cons_succ, i64_w, i32_w]
  rfl
 refine take_ (i := 12) (N := some 39) (v := ?_) (a' := ?_) #[tt_,tt_,tt_,tt_,tt_,tt_,tt_,tt_,tt_,tt_,tt_,tt_,tt_,ff_,ff_,ff_,ff_] rfl rfl (by kernel_rfl) (fun _ _ _ h => h) (Or.inl ⟨by rfl, ?_⟩) hHeld ?_ ?_
 rotate_left
 ·rintro w' ⟨s0, s1, s2, s3, s4, s5, s6⟩
  go_simp
  with_reducible rfl
 rotate_left
 ·simp only [Act.put, List.setIfInBounds_toArray, List.set_cons_zero, List.set_cons_succ, i64_w, i32_w]
  rfl
 refine take_ (i := 13) (N := some 40) (v := ?_) (a' := ?_) #[tt_,tt_,tt_,tt_,tt_,tt_,tt_,tt_,tt_,tt_,tt_,tt_,tt_,tt_,ff_,ff_,ff_] rfl rfl (by kernel_rfl) (fun _ _ _ h => h) (Or.inl ⟨by rfl, ?_⟩) hHeld ?_ ?_
 rotate_left
 ·rintro w' ⟨s0, s1, s2, s3, s4, s5, s6⟩
  go_simp
  with_reducible rfl
 rotate_left
 ·simp only [Act.put, List.setIfInBounds_toArray, List.set_cons_zero, List.set_cons_succ, i64_w, i32_w]
  rfl
 refine one_ (i := 14) (N := some 41) #[tt_,tt_,tt_,tt_,tt_,tt_,tt_,tt_,tt_,tt_,tt_,tt_,tt_,tt_,tt_,ff_,ff_] rfl rfl (by kernel_rfl) (by decide) (fun K hK => ?_)
 refine goes_ Try.func42 (by kernel_rfl) rfl #[.int .i64 (p.w : Int), .int .i64 (p.h : Int), .agg #[.int .i64 zx0, .int .i64 zy0, .int .i64 zx1, .int .i64 zy1]] (by rfl) rfl rfl (by (try simp only [List.map_toArray, List.map_cons, List.map_nil]); rfl) ?_
 with_reducible refine (Within_calls (p.w : Int) (p.h : Int) zx0 zy0 zx1 zy1 _ HWI.out).mono ?_
 rintro e w6 ⟨rfl, hb⟩
 refine ⟨_, rfl, ?_⟩
 have P6 := Aside0.mk (blk_below P5.out hb)
 have R6 := Aside0.mk (blk_below R5.out hb)
 have D6 := Aside0.mk (Kd.C_below D5.out hb)
 have B6 := Aside0.mk (below_step B5.out hb)
 clear hb
 refine hK.out _ _ ⟨(blk_cell P6.out 1).trans rfl, cell_on1 B6.out X0_.out, cell_on1 B6.out X1_.out, (blk_cell R6.out 0).trans rfl, (blk_cell R6.out 1).trans rfl, (blk_cell R6.out 2).trans rfl, (blk_cell R6.out 3).trans rfl⟩ (fun hHeld => ?_)
 clear hK K
 refine norm_ (a' := ?_) ?_ ?_
 rotate_left
 ·show Act.put _ (some 41) _ = _
  simp only [Act.put, List.setIfInBounds_toArray, List.set_cons_zero, List.set_cons_succ, i64_w, i32_w]
  rfl
 refine pure_ (i := 15) (N := some 42) (v := ?_) (a' := ?_) #[tt_,tt_,tt_,tt_,tt_,tt_,tt_,tt_,tt_,tt_,tt_,tt_,tt_,tt_,tt_,tt_,ff_] rfl rfl (by kernel_rfl) (fun _ _ _ h => h) (Or.inl ⟨by rfl, ?_⟩) ?_ ?_
 rotate_left
 ·intro w'
  go_simp
  with_reducible rfl
 rotate_left
 ·simp only [Act.put, List.setIfInBounds_toArray, List.set_cons_zero, List.set_cons_succ, i64_w, i32_w]
  rfl
 refine pure_ (i := 16) (N := some 43) (v := ?_) (a' := ?_) #[tt_,tt_,tt_,tt_,tt_,tt_,tt_,tt_,tt_,tt_,tt_,tt_,tt_,tt_,tt_,tt_,tt_] rfl rfl (by kernel_rfl) (fun _ _ _ h => h) (Or.inl ⟨by rfl, ?_⟩) ?_ ?_
 rotate_left
 ·intro w'
  go_simp
  with_reducible rfl
 rotate_left
 ·simp only [Act.put, List.setIfInBounds_toArray, List.set_cons_zero, List.set_cons_succ, i64_w, i32_w]
  rfl
 refine done_ (by kernel_rfl) ?_
 clear hHeld
 go_wp2
 go_ret
 exact ⟨rfl, B6.out⟩
end Go.Proofs.Ytbbebhdcfopmmaa.A
end
section
set_option linter.unusedVariables false
set_option linter.unusedSimpArgs false
namespace Go.Proofs.Ytbbebhdcfopmmaa.A
open Go.RowKit Go.Proofs.YtbbebhdcfopmmaaW.PrintWords Go.Proofs.YtbbebhdcfopmmaaW.PrintLast Go.Proofs.YtbbebhdcfopmmaaW.PrintMore Go.Proofs.Ytbbebhdcfopmmaa.PCodecNames

set_option maxHeartbeats 16000000 in
set_option maxRecDepth 100000 in
theorem codecCrop0 (sp sd : Int) (A : Option Addr) (cap n : Nat) (l : List S31) (zx0 zy0 zx1 zy1 : Int) (w : World) (hn : l.length = n) (hC : Kd.C k31 w A n l) (hcap : n ≤ cap) (hn2 : n < 4611686018427387904) (hs : fewTo l (min n 100) < 4611686018427387904) (hc : ∀ i : Nat, i < n → (rd_T31 l (i : Int)).f2.length < 4611686018427387904) (hb : fewB l = false ∨ encE sp l sd ≠ 0) :
    Calls Try.prog 11 #[.agg #[.int .i64 sp, .slice A n cap], .int .i64 sd, .agg #[.int .i64 zx0, .int .i64 zy0, .int .i64 zx1, .int .i64 zy1]] w fun e w' => e = .returned (.bool true) ∧ Below w.heap.size w w' := by
 have hu47 := Try.underlying47
 have hu73 := Try.underlying73
 have HN := Aside0.mk hn
 have HC := Aside0.mk hC
 have HN2 := Aside0.mk hn2
 have HLC := Aside0.mk hc
 have HCAP := Aside0.mk hcap
 have HS := Aside0.mk hs
 clear hn hC hn2 hc hcap hs
 by_cases hf : fewB l = false
 ·have HZ := Aside0.mk hf
  clear hb hf
  go_enter Try.func11, Try.ntmps11
  go_wp2_with (first | ((with_reducible refine gate_dst (N := 3) rfl ?_); refine box_event ?hg (N := 3) ?hd (cs := #[.int .i64 sp, .slice A n cap]) (t := 47) ?hr ?_; (case hd => rfl); (case hg => rfl); (case hr => first | (go_simp; done) | (go_simp; rfl)); intro gP hg_ w1 hm_ hb_; have P1 := Aside0.mk (hm_); have B1 := Aside0.mk (hb_); clear hm_ hb_ hg_) | ((with_reducible refine gate_dst (N := 5) rfl ?_); refine box_event ?hg (N := 5) ?hd (cs := #[.int .i64 zx0, .int .i64 zy0, .int .i64 zx1, .int .i64 zy1]) (t := 73) ?hr ?_; (case hd => rfl); (case hg => rfl); (case hr => first | (go_simp; done) | (go_simp; rfl)); intro gR hg_ w1b hm_ hb_; have P1 := Aside0.mk (blk_below P1.out hb_); have B1 := Aside0.mk (below_step B1.out hb_); clear hm_ hb_ hg_) | (go_at_call 15; refine (known_calls _).mono ?_; rintro e w2 ⟨rfl, hb⟩; have P2 := Aside0.mk (blk_below P1.out hb); have B2 := Aside0.mk (below_step B1.out hb); have p0 := (blk_cell P2.out 0).trans rfl; have p1 := (blk_cell P2.out 1).trans rfl; clear hb) | (go_at_call 28; with_reducible refine (few_any sp A cap n l _ HN.out (Kd.C_below HC.out B2.out) HS.out HZ.out).mono ?_; rintro e w3 ⟨rfl, hb⟩; have P3 := Aside0.mk (blk_below P2.out hb); have B3 := Aside0.mk (below_step B2.out hb); have p0 := (blk_cell P3.out 0).trans rfl; have p1 := (blk_cell P3.out 1).trans rfl; clear hb))
  go_ret
  exact ⟨rfl, B3.out⟩
 ·have HZ : Aside0 (fewB l = true) := ⟨by cases h : fewB l <;> simp_all⟩
  obtain ⟨z, hz⟩ : ∃ z, encE sp l sd = z := ⟨_, rfl⟩
  have h0 : z ≠ 0 := by rcases hb with h | h; exact absurd h hf; rw [← hz]; exact h
  have HZE := Aside0.mk hz
  have HZN := Aside0.mk h0
  have t0 : ((z : Int) != 0) = true := by rw [bne_iff_ne]; omega
  have t0' : (z != 0) = true := by rw [bne_iff_ne]; exact h0
  clear hb hf hz h0
  go_enter Try.func11, Try.ntmps11
  go_upto_region 6 with (first | ((with_reducible refine gate_dst (N := 3) rfl ?_); refine box_event ?hg (N := 3) ?hd (cs := #[.int .i64 sp, .slice A n cap]) (t := 47) ?hr ?_; (case hd => rfl); (case hg => rfl); (case hr => first | (go_simp; done) | (go_simp; rfl)); intro gP hg_ w1 hm_ hb_; have P1 := Aside0.mk (hm_); have B1 := Aside0.mk (hb_); clear hm_ hb_ hg_) | ((with_reducible refine gate_dst (N := 5) rfl ?_); refine box_event ?hg (N := 5) ?hd (cs := #[.int .i64 zx0, .int .i64 zy0, .int .i64 zx1, .int .i64 zy1]) (t := 73) ?hr ?_; (case hd => rfl); (case hg => rfl); (case hr => first | (go_simp; done) | (go_simp; rfl)); intro gR hg_ w1b hm_ hb_; have P1 := Aside0.mk (blk_below P1.out hb_); have B1 := Aside0.mk (below_step B1.out hb_); clear hm_ hb_ hg_) | (go_at_call 15; refine (known_calls _).mono ?_; rintro e w2 ⟨rfl, hb⟩; have P2 := Aside0.mk (blk_below P1.out hb); have B2 := Aside0.mk (below_step B1.out hb); have p0 := (blk_cell P2.out 0).trans rfl; have p1 := (blk_cell P2.out 1).trans rfl; clear hb) | (go_at_call 28; with_reducible refine (few_any sp A cap n l _ HN.out (Kd.C_below HC.out B2.out) HS.out HZ.out).mono ?_; rintro e w3 ⟨rfl, hb⟩; have P3 := Aside0.mk (blk_below P2.out hb); have B3 := Aside0.mk (below_step B2.out hb); have p0 := (blk_cell P3.out 0).trans rfl; have p1 := (blk_cell P3.out 1).trans rfl; clear hb) | (go_at_call 31; with_reducible refine (Encode_bad2 sp sd A cap n l _ HN.out (Kd.C_below HC.out B3.out) HCAP.out HN2.out HLC.out HZE.out HZN.out).mono ?_; rintro e w4 ⟨rfl, hb⟩; have B4 := Aside0.mk (below_step B3.out hb); clear hb))
  have B5 := Aside0.mk (below_drew1 B4.out)
  refine start_ (n := 17) (S := fun w' => True) (ds := []) #[ff_,ff_,ff_,ff_,ff_,ff_,ff_,ff_,ff_,ff_,ff_,ff_,ff_,ff_,ff_,ff_,ff_] (by kernel_rfl) rfl rfl trivial (fun hHeld => ?_)
  refine pure_ (i := 0) (N := some 27) (v := ?_) (a' := ?_) #[tt_,ff_,ff_,ff_,ff_,ff_,ff_,ff_,ff_,ff_,ff_,ff_,ff_,ff_,ff_,ff_,ff_] rfl rfl (by kernel_rfl) (fun _ _ _ h => h) (Or.inl ⟨by rfl, ?_⟩) ?_ ?_
  rotate_left
  ·intro w'
   go_simp
   with_reducible rfl
  rotate_left
  ·simp only [Act.put, List.setIfInBounds_toArray, List.set_cons_zero, List.set_cons_succ, i64_w, i32_w]
   rfl
  refine pure_ (i := 1) (N := some 28) (v := ?_) (a' := ?_) #[tt_,tt_,ff_,ff_,ff_,ff_,ff_,ff_,ff_,ff_,ff_,ff_,ff_,ff_,ff_,ff_,ff_] rfl rfl (by kernel_rfl) (fun _ _ _ h => h) (Or.inl ⟨by rfl, ?_⟩) ?_ ?_
  rotate_left
  ·intro w'
   go_simp
   with_reducible rfl
  rotate_left
  ·simp only [Act.put, List.setIfInBounds_toArray, List.set_cons_zero, List.set_cons_succ, i64_w, i32_w]
   rfl
  refine pure_ (i := 2) (N := some 29) (v := ?_) (a' := ?_) #[tt_,tt_,tt_,ff_,ff_,ff_,ff_,ff_,ff_,ff_,ff_,ff_,ff_,ff_,ff_,ff_,ff_] rfl rfl (by kernel_rfl) (fun _ _ _ h => h) (Or.inl ⟨by rfl, ?_⟩) ?_ ?_
  rotate_left
  ·intro w'
   go_simp
   with_reducible rfl
  rotate_left
  ·simp only [Act.put, List.setIfInBounds_toArray, List.set_cons_zero, List.set_cons_succ, i64_w, i32_w]
   rfl
  refine pure_ (i := 3) (N := some 30) (v := undef) (a' := ?_) #[tt_,tt_,tt_,tt_,ff_,ff_,ff_,ff_,ff_,ff_,ff_,ff_,ff_,ff_,ff_,ff_,ff_] rfl rfl (by kernel_rfl) (fun _ _ _ h => h) (Or.inr ⟨by rfl, rfl⟩) ?_ ?_
  rotate_left
  ·simp only [Act.put, List.setIfInBounds_toArray, List.set_cons_zero, List.set_cons_succ, i64_w, i32_w]
   rfl
  refine pure_ (i := 4) (N := some 31) (v := undef) (a' := ?_) #[tt_,tt_,tt_,tt_,tt_,ff_,ff_,ff_,ff_,ff_,ff_,ff_,ff_,ff_,ff_,ff_,ff_] rfl rfl (by kernel_rfl) (fun _ _ _ h => h) (Or.inr ⟨by rfl, rfl⟩) ?_ ?_
  rotate_left
  ·simp only [Act.put, List.setIfInBounds_toArray, List.set_cons_zero, List.set_cons_succ, i64_w, i32_w]
   rfl
  refine pure_ (i := 5) (N := some 32) (v := undef) (a' := ?_) #[tt_,tt_,tt_,tt_,tt_,tt_,ff_,ff_,ff_,ff_,ff_,ff_,ff_,ff_,ff_,ff_,ff_] rfl rfl (by kernel_rfl) (fun _ _ _ h => h) (Or.inr ⟨by rfl, rfl⟩) ?_ ?_
  rotate_left
  ·simp only [Act.put, List.setIfInBounds_toArray, List.set_cons_zero, List.set_cons_succ, i64_w, i32_w]
   rfl
  refine pure_ (i := 6) (N := some 33) (v := undef) (a' := ?_) #[tt_,tt_,tt_,tt_,tt_,tt_,tt_,ff_,ff_,ff_,ff_,ff_,ff_,ff_,ff_,ff_,ff_] rfl rfl (by kernel_rfl) (fun _ _ _ h => h) (Or.inr ⟨by rfl, rfl⟩) ?_ ?_
  rotate_left
  ·simp only [Act.put, List.setIfInBounds_toArray, List.set_cons_zero, List.set_cons_succ, i64_w, i32_w]
   rfl
  refine pure_ (i := 7) (N := some 34) (v := undef) (a' := ?_) #[tt_,tt_,tt_,tt_,tt_,tt_,tt_,tt_,ff_,ff_,ff_,ff_,ff_,ff_,ff_,ff_,ff_] rfl rfl (by kernel_rfl) (fun _ _ _ h => h) (Or.inr ⟨by rfl, rfl⟩) ?_ ?_
  rotate_left
  ·simp only [Act.put, List.setIfInBounds_toArray, List.set_cons_zero, List.set_cons_succ, i64_w, i32_w]
   rfl
  refine pure_ (i := 8) (N := some 35) (v := undef) (a' := ?_) #[tt_,tt_,tt_,tt_,tt_,tt_,tt_,tt_,tt_,ff_,ff_,ff_,ff_,ff_,ff_,ff_,ff_] rfl rfl (by kernel_rfl) (fun _ _ _ h => h) (Or.inr ⟨by rfl, rfl⟩) ?_ ?_
  rotate_left
  ·simp only [Act.put, List.setIfInBounds_toArray, List.set_cons_zero, List.set_cons_succ, i64_w, i32_w]
   rfl
  refine pure_ (i := 9) (N := some 36) (v := undef) (a' := ?_) #[tt_,tt_,tt_,tt_,tt_,tt_,tt_,tt_,tt_,tt_,ff_,ff_,ff_,ff_,ff_,ff_,ff_] rfl rfl (by kernel_rfl) (fun _ _ _ h => h) (Or.inr ⟨by rfl, rfl⟩) ?_ ?_
  rotate_left
  ·simp only [Act.put, List.setIfInBounds_toArray, List.set_cons_zero, List.set_cons_succ, i64_w, i32_w]
   rfl
  refine pure_ (i := 10) (N := some 37) (v := undef) (a' := ?_) #[tt_,tt_,tt_,tt_,tt_,tt_,tt_,tt_,tt_,tt_,tt_,ff_,ff_,ff_,ff_,ff_,ff_] rfl rfl (by kernel_rfl) (fun _ _ _ h => h) (Or.inr ⟨by rfl, rfl⟩) ?_ ?_
  rotate_left
  ·simp only [Act.put, List.setIfInBounds_toArray, List.set_cons_zero, List.set_cons_succ, i64_w, i32_w]
   rfl
  refine pure_ (i := 11) (N := some 38) (v := undef) (a' := ?_) #[tt_,tt_,tt_,tt_,tt_,tt_,tt_,tt_,tt_,tt_,tt_,tt_,ff_,ff_,ff_,ff_,ff_] rfl rfl (by kernel_rfl) (fun _ _ _ h => h) (Or.inr ⟨by rfl, rfl⟩) ?_ ?_
  rotate_left
  ·simp only [Act.put, List.setIfInBounds_toArray, List.set_cons_zero, List.set_cons_succ, i64_w, i32_w]
   rfl
  refine pure_ (i := 12) (N := some 39) (v := undef) (a' := ?_) #[tt_,tt_,tt_,tt_,tt_,tt_,tt_,tt_,tt_,tt_,tt_,tt_,tt_,ff_,ff_,ff_,ff_] rfl rfl (by kernel_rfl) (fun _ _ _ h => h) (Or.inr ⟨by rfl, rfl⟩) ?_ ?_
  rotate_left
  ·simp only [Act.put, List.setIfInBounds_toArray, List.set_cons_zero, List.set_cons_succ, i64_w, i32_w]
   rfl
  refine pure_ (i := 13) (N := some 40) (v := undef) (a' := ?_) #[tt_,tt_,tt_,tt_,tt_,tt_,tt_,tt_,tt_,tt_,tt_,tt_,tt_,tt_,ff_,ff_,ff_] rfl rfl (by kernel_rfl) (fun _ _ _ h => h) (Or.inr ⟨by rfl, rfl⟩) ?_ ?_
  rotate_left
  ·simp only [Act.put, List.setIfInBounds_toArray, List.set_cons_zero, List.set_cons_succ, i64_w, i32_w]
   rfl
  refine pure_ (i := 14) (N := some 41) (v := undef) (a' := ?_) #[tt_,tt_,tt_,tt_,tt_,tt_,tt_,tt_,tt_,tt_,tt_,tt_,tt_,tt_,tt_,ff_,ff_] rfl rfl (by kernel_rfl) (fun _ _ _ h => h) (Or.inr ⟨by rfl, rfl⟩) ?_ ?_
  rotate_left
  ·simp only [Act.put, List.setIfInBounds_toArray, List.set_cons_zero, List.set_cons_succ, i64_w, i32_w]
   rfl
  refine pure_ (i := 15) (N := some 42) (v := undef) (a' := ?_) #[tt_,tt_,tt_,tt_,tt_,tt_,tt_,tt_,tt_,tt_,tt_,tt_,tt_,tt_,tt_,tt_,ff_] rfl rfl (by kernel_rfl) (fun _ _ _ h => h) (Or.inr ⟨by rfl, rfl⟩) ?_ ?_
  rotate_left
  ·simp only [Act.put, List.setIfInBounds_toArray, List.set_cons_zero, List.set_cons_succ, i64_w, i32_w]
   rfl
  refine pure_ (i := 16) (N := some 43) (v := ?_) (a' := ?_) #[tt_,tt_,tt_,tt_,tt_,tt_,tt_,tt_,tt_,tt_,tt_,tt_,tt_,tt_,tt_,tt_,tt_] rfl rfl (by kernel_rfl) (fun _ _ _ h => h) (Or.inl ⟨by rfl, ?_⟩) ?_ ?_
  rotate_left
  ·intro w'
   go_simp
   with_reducible rfl
  rotate_left
  ·simp only [Act.put, List.setIfInBounds_toArray, List.set_cons_zero, List.set_cons_succ, i64_w, i32_w]
   rfl
  refine done_ (by kernel_rfl) ?_
  go_wp2
  go_ret
  exact ⟨rfl, B5.out⟩
theorem codecCrop (sp sd : Int) (A : Option Addr) (cap n : Nat) (l : List S31) (zx0 zy0 zx1 zy1 : Int) (w : World) (hn : l.length = n) (hC : Kd.C k31 w A n l) (hcap : n ≤ cap) (hx : ∀ x ∈ l, ∀ z ∈ x.f2, 0 ≤ z ∧ z < 4294967296) (hb : fewTo l n ≤ 1048576) (hc : ∀ i : Nat, i < n → (rd_T31 l (i : Int)).f2.length ≤ 1048576) :
    Calls Try.prog 11 #[.agg #[.int .i64 sp, .slice A n cap], .int .i64 sd, .agg #[.int .i64 zx0, .int .i64 zy0, .int .i64 zx1, .int .i64 zy1]] w fun e w' => e = .returned (.bool true) ∧ Below w.heap.size w w' := by
 have h1 : n ≤ 1048576 := by
  have := fewTo_le l (Nat.zero_le n)
  have e : fewTo l 0 = n := hn
  omega
 have h2 : fewTo l (min n 100) < 4611686018427387904 := by
  have := fewTo_le l (Nat.min_le_left n 100)
  omega
 have h3 : ∀ i : Nat, i < n → (rd_T31 l (i : Int)).f2.length < 4611686018427387904 := fun i hi => by have := hc i hi; omega
 by_cases hf : fewB l = false
 ·exact codecCrop0 sp sd A cap n l zx0 zy0 zx1 zy1 w hn hC hcap (by omega) h2 h3 (.inl hf)
 by_cases he : encE sp l sd = 0
 ·obtain ⟨g1, g2, g3⟩ := encE_zero he
  obtain ⟨p, rfl, rfl, hp⟩ := pic_of g1 hx
  obtain ⟨S, rfl⟩ : ∃ S : Nat, sd = (S : Int) := ⟨sd.toNat, by omega⟩
  by_cases hw : withinZ (p.w : Int) (p.h : Int) zx0 zy0 zx1 zy1 = true
  ·have hw2 := hw
   unfold withinZ at hw2
   simp only [Bool.and_eq_true, decide_eq_true_eq] at hw2
   obtain ⟨X0, rfl⟩ : ∃ r : Nat, zx0 = (r : Int) := ⟨zx0.toNat, by omega⟩
   obtain ⟨Y0, rfl⟩ : ∃ r : Nat, zy0 = (r : Int) := ⟨zy0.toNat, by omega⟩
   obtain ⟨X1, rfl⟩ : ∃ r : Nat, zx1 = (r : Int) := ⟨zx1.toNat, by omega⟩
   obtain ⟨Y1, rfl⟩ : ∃ r : Nat, zy1 = (r : Int) := ⟨zy1.toNat, by omega⟩
   exact codecCrop1 p S A cap n p.s31s X0 Y0 X1 Y1 w hn rfl hp (by omega) (by omega) hC hcap (by simpa using hf) h2 (by omega) (by omega) (by omega) (by omega)
  ·exact codecCrop2 p S A cap n p.s31s zx0 zy0 zx1 zy1 w hn rfl hp (by omega) (by omega) hC hcap (by simpa using hf) h2 (by simpa using hw)
 ·exact codecCrop0 sp sd A cap n l zx0 zy0 zx1 zy1 w hn hC hcap (by omega) h2 h3 (.inr he)
end Go.Proofs.Ytbbebhdcfopmmaa.A
end
