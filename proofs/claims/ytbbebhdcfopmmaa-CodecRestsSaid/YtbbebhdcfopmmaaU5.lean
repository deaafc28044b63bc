import Derived.Test.YtbbebhdcfopmmaaU4
import Derived.ChangeSlices
import Derived.Deep.Cut
import Derived.Lib.SlBytesConst
import Derived.SizedLaws
section
set_option linter.unusedVariables false
set_option linter.unusedSimpArgs false
namespace Go.Proofs.Ytbbebhdcfopmmaa.A
open Go.RowKit Go.Proofs.YtbbebhdcfopmmaaW.PrintWords Go.Proofs.YtbbebhdcfopmmaaW.PrintLast Go.Proofs.YtbbebhdcfopmmaaW.PrintMore Go.Proofs.Ytbbebhdcfopmmaa.PCodecNames

set_option maxHeartbeats 4000000 in
set_option maxRecDepth 100000 in
theorem Region_bad (A : Option Addr) (cap : Nat) (b : List Nat) (X0 Y0 X1 Y1 : Int) (w : World) (hC : (nat .u8).C w A b.length b) (hcap : b.length ≤ cap) (h8 : ∀ i, gt b i < 256) (hl : b.length < 4611686018427387904) (he : openE b ≠ 0) :
    Calls Try.prog 40 #[.slice A b.length cap, .agg #[.int .i64 X0, .int .i64 Y0, .int .i64 X1, .int .i64 Y1]] w fun e w1 => e = .returned (.tuple #[.agg #[.int .i64 0, .slice none 0 0], .slice none 0 0, .int .i64 ((openE b : Nat) : Int)]) ∧ Below w.heap.size w w1 := by
 have hu121 := Try.underlying121
 have hu60 := Try.underlying60
 have hu73 := Try.underlying73
 have hu105 := Try.underlying105
 obtain ⟨z, hz⟩ : ∃ z, z = openE b := ⟨_, rfl⟩
 have t1 : ((z : Int) != 0) = true := by rw [bne_iff_ne]; omega
 have t2 : (z != 0) = true := by rw [bne_iff_ne]; omega
 have HNE : Aside0 (openE b ≠ 0) := ⟨he⟩
 have HZ := Aside0.mk hz
 have HC := Aside0.mk hC
 have HCAP := Aside0.mk hcap
 have H8 := Aside0.mk h8
 have HL := Aside0.mk hl
 rw [← hz]
 clear hz hC hcap h8 hl he
 go_enter Try.func40, Try.ntmps40
 go_wp2_with (first | ((with_reducible refine gate_dst (N := 3) rfl ?_); refine box_event ?hg (N := 3) ?hd (cs := #[.int .i64 X0, .int .i64 Y0, .int .i64 X1, .int .i64 Y1]) (t := 73) ?hr ?_; (case hd => rfl); (case hg => rfl); (case hr => first | (go_simp; done) | (go_simp; rfl)); intro gr hg_ w_0 hm_ hb_; have G0 := Aside0.mk (hm_); have B0 := Aside0.mk (hb_); clear hm_ hb_ hg_) | ((with_reducible refine gate_dst (N := 4) rfl ?_); refine box_event ?hg (N := 4) ?hd (cs := #[.int .i64 0, .slice none 0 0]) (t := 47) ?hr ?_; (case hd => rfl); (case hg => rfl); (case hr => first | (go_simp; done) | (go_simp; rfl)); intro gR hg_ w1 hm_ hb_; have G1 := Aside0.mk (blk_below G0.out hb_); have R1 := Aside0.mk (hm_); have B1 := Aside0.mk (below_step B0.out hb_); have GR := Aside0.mk (show w.heap.size ≤ gR by rw [hg_]; exact below_size B0.out); clear hm_ hb_ hg_) | (go_at_call 75; with_reducible refine (opened_calls A cap b _ ?h1 HCAP.out H8.out HL.out).mono ?_; (case h1 => exact Kd.C_below HC.out B1.out); unfold OpenPost; rintro e w3 ⟨hb, hor⟩; have he := (hor.resolve_right (fun h => absurd h.1 HNE.out)).2; rw [← HZ.out] at he; subst he; have R3 := Aside0.mk (blk_below R1.out hb); have B3 := Aside0.mk (below_step B1.out hb); clear hb hor) | ((with_reducible refine gate_dst (N := 7) rfl ?_); refine box_event ?hg (N := 7) ?hd (cs := #[.int .i64 0, .int .i64 0, .int .i64 0, .int .i64 0, .int .i64 0, .pointer none, .slice none 0 0, .slice none 0 0, .int .i64 0]) (t := 121) ?hr ?_; (case hd => rfl); (case hg => rfl); (case hr => first | (go_simp; done) | (go_simp; rfl)); intro gf hg_ w4 hm_ hb_; have R4 := Aside0.mk (blk_below R3.out hb_); have F4 := Aside0.mk (hm_); have B4 := Aside0.mk (below_step B3.out hb_); have GF := Aside0.mk (show w.heap.size ≤ gf by rw [hg_]; exact below_size B3.out); have NRF := Aside0.mk (blk_ne R4.out F4.out (by decide)); have p0 := (blk_cell F4.out 0).trans rfl; have p1 := (blk_cell F4.out 1).trans rfl; have p2 := (blk_cell F4.out 2).trans rfl; have p3 := (blk_cell F4.out 3).trans rfl; have p4 := (blk_cell F4.out 4).trans rfl; have p5 := (blk_cell F4.out 5).trans rfl; have p6 := (blk_cell F4.out 6).trans rfl; have p7 := (blk_cell F4.out 7).trans rfl; have p8 := (blk_cell F4.out 8).trans rfl; have fp0 := blk_frozen F4.out 0; have fp1 := blk_frozen F4.out 1; have fp2 := blk_frozen F4.out 2; have fp3 := blk_frozen F4.out 3; have fp4 := blk_frozen F4.out 4; have fp5 := blk_frozen F4.out 5; have fp6 := blk_frozen F4.out 6; have fp7 := blk_frozen F4.out 7; have fp8 := blk_frozen F4.out 8; have X5 := Aside0.mk (put9 (x0 := .int .i64 0) (x1 := .int .i64 0) (x2 := .int .i64 0) (x3 := .int .i64 0) (x4 := .int .i64 0) (x5 := .pointer none) (x6 := .slice none 0 0) (x7 := .slice none 0 0) (x8 := .int .i64 0) F4.out rfl); have R5 := Aside0.mk ((X5.out.2.1 gR NRF.out).trans R4.out); have B5 := Aside0.mk (B4.out.trans (X5.out.2.2 _ GF.out)); have o0 := (blk_cell R5.out 0).trans rfl; have o1 := (blk_cell R5.out 1).trans rfl; have fo0 := blk_frozen R5.out 0; have fo1 := blk_frozen R5.out 1; clear hm_ hb_ hg_))
 obtain ⟨w6, hw6⟩ : ∃ w6, w6 = (((((((((w4.setCell ⟨gf, 0, none⟩ (.int .i64 0)).setCell ⟨gf, 1, none⟩ (.int .i64 0)).setCell ⟨gf, 2, none⟩ (.int .i64 0)).setCell ⟨gf, 3, none⟩ (.int .i64 0)).setCell ⟨gf, 4, none⟩ (.int .i64 0)).setCell ⟨gf, 5, none⟩ (.pointer none)).setCell ⟨gf, 6, none⟩ (.slice none 0 0)).setCell ⟨gf, 7, none⟩ (.slice none 0 0)).setCell ⟨gf, 8, none⟩ (.int .i64 0)) := ⟨_, rfl⟩
 rw [← hw6] at R5 B5 ⊢
 obtain ⟨wz, hwz⟩ : ∃ wz, wz = (w6.setCell ⟨gR, 0, none⟩ (.int .i64 0)).setCell ⟨gR, 1, none⟩ (.slice none 0 0) := ⟨_, rfl⟩
 rw [← hwz]
 obtain ⟨hGz, hstz, hblz⟩ := put2 R5.out hwz
 refine bodyPost_ret (results_ctt rfl _ _ gR 47 #[.int .i64 0, .slice none 0 0] (0, 0) _ rfl hGz Try.underlying47 rfl (by kernel_rfl)) rfl ?_
 refine ⟨?_, B5.out.trans (hblz _ GR.out)⟩
 rfl

set_option maxHeartbeats 16000000 in
set_option maxRecDepth 100000 in
theorem Region_rect (sp pl W H S : Nat) (ad : Addr) (cap : Nat) (b : List Nat) (X0 Y0 X1 Y1 : Int) (w : World) (hC : (nat .u8).C w (some ad) b.length b) (hcap : b.length ≤ cap) (h8 : ∀ i, gt b i < 256) (he : openE b = 0) (q0 : hSp b = sp) (q1 : hPl b = pl) (q2 : hW b = W) (q3 : hH b = H) (q4 : hS b = S) (hr : X0 < 0 ∨ X1 ≤ X0 ∨ (W : Int) < X1 ∨ Y0 < 0 ∨ Y1 ≤ Y0 ∨ (H : Int) < Y1) :
    Calls Try.prog 40 #[.slice (some ad) b.length cap, .agg #[.int .i64 X0, .int .i64 Y0, .int .i64 X1, .int .i64 Y1]] w fun e w1 => e = .returned (.tuple #[.agg #[.int .i64 0, .slice none 0 0], .slice none 0 0, .int .i64 52]) ∧ Below w.heap.size w w1 := by
 have hu121 := Try.underlying121
 have hu119 := Try.underlying119
 have hu60 := Try.underlying60
 have hu105 := Try.underlying105
 have hu47 := Try.underlying47
 have hu73 := Try.underlying73
 have hu31 := Try.underlying31
 obtain ⟨oz1, oz2, oz3, oz4, oz5, oz6⟩ := open_zero he
 have hmay : mayB sp pl W H S = true := by rw [← q0, ← q1, ← q2, ← q3, ← q4]; exact oz4
 obtain ⟨m1, m2, m3, m4, m5, m6, m7, m8, m9, m10⟩ := mayB_true hmay
 have HM := Aside0.mk hmay
 have HE : Aside0 (openE b = 0) := ⟨he⟩
 obtain ⟨at0, q5⟩ : ∃ a, 16 + hN b = a := ⟨_, rfl⟩
 obtain ⟨n, hn⟩ : ∃ n, n = hK b := ⟨_, rfl⟩
 obtain ⟨ix, hix⟩ : ∃ ix, ix = idxTo b n := ⟨_, rfl⟩
 have HIX : Aside0 (idxTo b (hK b) = ix) := ⟨by rw [hix, hn]⟩
 have HIXN : Aside0 (ix.length = n) := ⟨by rw [hix, idxTo_length]⟩
 have HNK := Aside0.mk hn
 have HIX2 := Aside0.mk hix
 have HH : Aside0 (16 + hN b ≤ b.length) := ⟨oz5⟩
 have HMY : Aside0 (hMay b = true) := ⟨oz4⟩
 have HAT0 : Aside0 (at0 = partPos b 0) := ⟨q5.symm⟩
 have hnp : 0 < n := by
  rw [hn]; unfold hK tilesN
  exact Nat.mul_pos (Nat.mul_pos (acrossN_pos (by omega) (by omega)) (acrossN_pos (by omega) (by omega))) (by omega)
 have HIXP : Aside0 (0 < ix.length) := ⟨by rw [HIXN.out]; exact hnp⟩
 have HNL : Aside0 (n ≤ 1048576) := ⟨by have := hN_eq b; omega⟩
 have HWB : Aside0 (0 < W ∧ W ≤ 1024 ∧ H ≤ 1024 ∧ 0 < S ∧ S ≤ 1024 ∧ 0 < H) := ⟨by omega⟩
 have HWA : Aside0 (W * H ≤ 65536) := ⟨by omega⟩
 clear hnp
 have Q0 := Aside0.mk q0; have Q1 := Aside0.mk q1; have Q2 := Aside0.mk q2; have Q3 := Aside0.mk q3; have Q4 := Aside0.mk q4; have Q5 := Aside0.mk q5
 have HC := Aside0.mk hC
 have HCAP := Aside0.mk hcap
 have H8 := Aside0.mk h8
 have HL : Aside0 (b.length < 4611686018427387904) := ⟨by omega⟩
 have HL4 := Aside0.mk oz1
 have HSP : Aside0 (spaceE (sp : Int) pl = 0) := ⟨m10⟩
 have HP14 : Aside0 (1 ≤ pl ∧ pl ≤ 4) := ⟨⟨m3, m4⟩⟩
 clear hC hcap h8 he q0 q1 q2 q3 q4 q5 oz1 oz2 oz3 oz4 oz5 oz6 hmay m1 m2 m3 m4 m5 m6 m7 m8 m9 m10 hn hix
 by_cases b0 : X0 < 0
 rotate_left
 by_cases b1 : X1 ≤ X0
 rotate_left
 by_cases b2 : (W : Int) < X1
 rotate_left
 by_cases b3 : Y0 < 0
 rotate_left
 by_cases b4 : Y1 ≤ Y0
 rotate_left
 by_cases b5 : (H : Int) < Y1
 rotate_left
 ·exfalso; omega
 all_goals
  first | have a0 : decide (X0 < 0) = true := decide_eq_true b0 | have a0 : decide (X0 < 0) = false := decide_eq_false b0 | skip
  first | have a1 : decide (X1 ≤ X0) = true := decide_eq_true b1 | have a1 : decide (X1 ≤ X0) = false := decide_eq_false b1 | skip
  first | have a2 : decide ((W : Int) < X1) = true := decide_eq_true b2 | have a2 : decide ((W : Int) < X1) = false := decide_eq_false b2 | skip
  first | have a3 : decide (Y0 < 0) = true := decide_eq_true b3 | have a3 : decide (Y0 < 0) = false := decide_eq_false b3 | skip
  first | have a4 : decide (Y1 ≤ Y0) = true := decide_eq_true b4 | have a4 : decide (Y1 ≤ Y0) = false := decide_eq_false b4 | skip
  first | have a5 : decide ((H : Int) < Y1) = true := decide_eq_true b5 | have a5 : decide ((H : Int) < Y1) = false := decide_eq_false b5 | skip
  first | clear hr b0 b1 b2 b3 b4 b5 | clear hr b0 b1 b2 b3 b4 | clear hr b0 b1 b2 b3 | clear hr b0 b1 b2 | clear hr b0 b1 | clear hr b0
  go_enter Try.func40, Try.ntmps40
  go_upto_region 2 with (first | ((with_reducible refine gate_dst (N := 3) rfl ?_); refine box_event ?hg (N := 3) ?hd (cs := #[.int .i64 X0, .int .i64 Y0, .int .i64 X1, .int .i64 Y1]) (t := 73) ?hr ?_; (case hd => rfl); (case hg => rfl); (case hr => first | (go_simp; done) | (go_simp; rfl)); intro gr hg_ w_0 hm_ hb_; have G0 := Aside0.mk (hm_); have B0 := Aside0.mk (hb_); clear hm_ hb_ hg_) | ((with_reducible refine gate_dst (N := 4) rfl ?_); refine box_event ?hg (N := 4) ?hd (cs := #[.int .i64 0, .slice none 0 0]) (t := 47) ?hr ?_; (case hd => rfl); (case hg => rfl); (case hr => first | (go_simp; done) | (go_simp; rfl)); intro gR hg_ w1 hm_ hb_; have G1 := Aside0.mk (blk_below G0.out hb_); have R1 := Aside0.mk (hm_); have B1 := Aside0.mk (below_step B0.out hb_); have GR := Aside0.mk (show w.heap.size ≤ gR by rw [hg_]; exact below_size B0.out); clear hm_ hb_ hg_) | (go_at_call 75; with_reducible refine (opened_calls (some ad) cap b _ ?h1 HCAP.out H8.out HL.out).mono ?_; (case h1 => exact Kd.C_below HC.out B1.out); unfold OpenPost; rintro e w3 ⟨hb, hor⟩; obtain ⟨_, gT, vi, he, hgT, hTB, hV⟩ := hor.resolve_left (fun h => absurd HE.out h.1); rw [Q0.out, Q1.out, Q2.out, Q3.out, Q4.out, Q5.out] at he; rw [HIX.out] at hV; obtain ⟨av, cv, hvi⟩ := Kd.R_slice1 hV HIXP.out; rw [HIXN.out] at hvi; subst hvi; subst he; have IV3 := Aside0.mk (Kd.R_lower hV B1.out.size); have T3 := Aside0.mk hTB; have R3 := Aside0.mk (blk_below R1.out hb); have G3 := Aside0.mk (blk_below G1.out hb); have B3 := Aside0.mk (below_step B1.out hb); clear hb hor hV hTB hgT) | ((with_reducible refine gate_dst (N := 7) rfl ?_); refine box_event ?hg (N := 7) ?hd (cs := #[.int .i64 0, .int .i64 0, .int .i64 0, .int .i64 0, .int .i64 0, .pointer none, .slice none 0 0, .slice none 0 0, .int .i64 0]) (t := 121) ?hr ?_; (case hd => rfl); (case hg => rfl); (case hr => first | (go_simp; done) | (go_simp; rfl)); intro gf hg_ w4 hm_ hb_; have R4 := Aside0.mk (blk_below R3.out hb_); have G4 := Aside0.mk (blk_below G3.out hb_); have F4 := Aside0.mk (hm_); have B4 := Aside0.mk (below_step B3.out hb_); have T4 := Aside0.mk (T3.out.below hb_); have IV4 := Aside0.mk (Kd.R_below IV3.out hb_); have GF := Aside0.mk (show w.heap.size ≤ gf by rw [hg_]; exact below_size B3.out); have NRF := Aside0.mk (blk_ne R4.out F4.out (by decide)); have NGF := Aside0.mk (blk_ne G4.out F4.out (by decide)); have p0 := (blk_cell F4.out 0).trans rfl; have p1 := (blk_cell F4.out 1).trans rfl; have p2 := (blk_cell F4.out 2).trans rfl; have p3 := (blk_cell F4.out 3).trans rfl; have p4 := (blk_cell F4.out 4).trans rfl; have p5 := (blk_cell F4.out 5).trans rfl; have p6 := (blk_cell F4.out 6).trans rfl; have p7 := (blk_cell F4.out 7).trans rfl; have p8 := (blk_cell F4.out 8).trans rfl; have fp0 := blk_frozen F4.out 0; have fp1 := blk_frozen F4.out 1; have fp2 := blk_frozen F4.out 2; have fp3 := blk_frozen F4.out 3; have fp4 := blk_frozen F4.out 4; have fp5 := blk_frozen F4.out 5; have fp6 := blk_frozen F4.out 6; have fp7 := blk_frozen F4.out 7; have fp8 := blk_frozen F4.out 8; obtain ⟨ct, hct⟩ := T4.out.block; have NTF := Aside0.mk (blk_ne hct F4.out (by decide)); clear hct; have X5 := Aside0.mk (put9 (x0 := .int .i64 (sp : Int)) (x1 := .int .i64 (pl : Int)) (x2 := .int .i64 (W : Int)) (x3 := .int .i64 (H : Int)) (x4 := .int .i64 (S : Int)) (x5 := .pointer (some ⟨gT, 0, none⟩)) (x6 := .slice (some av) n cv) (x7 := .slice (some ad) b.length cap) (x8 := .int .i64 (at0 : Int)) F4.out rfl); have R5 := Aside0.mk ((X5.out.2.1 gR NRF.out).trans R4.out); have G5 := Aside0.mk ((X5.out.2.1 gr NGF.out).trans G4.out); have F5 := Aside0.mk (X5.out.1); have B5 := Aside0.mk (B4.out.trans (X5.out.2.2 _ GF.out)); have T5 := Aside0.mk (T4.out.move (X5.out.2.1 gT NTF.out)); have IV5 := Aside0.mk (Kd.R_mono (Kd.R_move (Kd.R_types IV4.out F4.out (by decide)) (fun k hk => X5.out.2.1 k hk.2)) (fun _ _ => trivial)); have o0 := (blk_cell R5.out 0).trans rfl; have o1 := (blk_cell R5.out 1).trans rfl; have fo0 := blk_frozen R5.out 0; have fo1 := blk_frozen R5.out 1; have g0 := (blk_cell G5.out 0).trans rfl; have g1 := (blk_cell G5.out 1).trans rfl; have g2 := (blk_cell G5.out 2).trans rfl; have g3 := (blk_cell G5.out 3).trans rfl; have y0 := (blk_cell F5.out 0).trans rfl; have y1 := (blk_cell F5.out 1).trans rfl; have y2 := (blk_cell F5.out 2).trans rfl; have y3 := (blk_cell F5.out 3).trans rfl; have y4 := (blk_cell F5.out 4).trans rfl; clear hm_ hb_ hg_))
  generalize (((((((((w4.setCell ⟨gf, 0, none⟩ (.int .i64 (sp : Int))).setCell ⟨gf, 1, none⟩ (.int .i64 (pl : Int))).setCell ⟨gf, 2, none⟩ (.int .i64 (W : Int))).setCell ⟨gf, 3, none⟩ (.int .i64 (H : Int))).setCell ⟨gf, 4, none⟩ (.int .i64 (S : Int))).setCell ⟨gf, 5, none⟩ (.pointer (some ⟨gT, 0, none⟩))).setCell ⟨gf, 6, none⟩ (.slice (some av) n cv)).setCell ⟨gf, 7, none⟩ (.slice (some ad) b.length cap)).setCell ⟨gf, 8, none⟩ (.int .i64 (at0 : Int))) = w6 at *
  clear p0 p1 p2 p3 p4 p5 p6 p7 p8 fp0 fp1 fp2 fp3 fp4 fp5 fp6 fp7 fp8 R4 G4 F4 B4 T4 IV4 X5 NTF
  go_wp2
  obtain ⟨wz, hwz⟩ : ∃ wz, wz = (w6.setCell ⟨gR, 0, none⟩ (.int .i64 0)).setCell ⟨gR, 1, none⟩ (.slice none 0 0) := ⟨_, rfl⟩
  rw [← hwz]
  obtain ⟨hGz, hstz, hblz⟩ := put2 R5.out hwz
  refine bodyPost_ret (results_ctt rfl _ _ gR 47 #[.int .i64 0, .slice none 0 0] (0, 0) _ rfl hGz Try.underlying47 rfl (by kernel_rfl)) rfl ?_
  refine ⟨?_, B5.out.trans (hblz _ GR.out)⟩
  rfl
end Go.Proofs.Ytbbebhdcfopmmaa.A
end
section
set_option linter.unusedVariables false
set_option linter.unusedSimpArgs false
namespace Go.Proofs.Ytbbebhdcfopmmaa.A
open Go.RowKit Go.Proofs.YtbbebhdcfopmmaaW.PrintWords Go.Proofs.YtbbebhdcfopmmaaW.PrintLast Go.Proofs.YtbbebhdcfopmmaaW.PrintMore Go.Proofs.Ytbbebhdcfopmmaa.PCodecNames

theorem partPos_le {b : List Nat} (hh : 16 + hN b ≤ b.length) (hl : b.length ≤ 4194304) (h8 : ∀ i, gt b i < 256) : ∀ k, k ≤ hK b → partPos b k ≤ 4194304 + k * 4294967300 := by
 intro k
 induction k with
 | zero => intro _; show 16 + hN b ≤ _; omega
 | succ k ih =>
  intro hk
  have h1 := ih (by omega)
  have h2 := partLen_lt hh (show k < hK b by omega) h8
  rw [partPos]
  omega

/-- Region, the file open and the rectangle within -/
def RegP (b : List Nat) (X0 Y0 X1 Y1 sp pw ph z : Nat) (w : World) (e : Ending) (w1 : World) : Prop := Below w.heap.size w w1 ∧
 ((z ≠ 0 ∧ e = .returned (.tuple #[.agg #[.int .i64 0, .slice none 0 0], .slice none 0 0, .int .i64 (z : Int)])) ∨
  (z = 0 ∧ ∃ vp vr, e = .returned (.tuple #[.agg #[.int .i64 (sp : Int), vp], vr, .int .i64 0]) ∧ ∃ hs, PicOwn w.heap.size w1 vp pw ph hs (regLaid b X0 Y0 X1 Y1 (hK b)) ∧ (nat .i64).R 3 w1 w.heap.size (fun k => vr.ownBlock = some k) vr (regRead b X0 Y0 X1 Y1 (hK b))))
set_option maxHeartbeats 16000000 in
set_option maxRecDepth 100000 in
theorem Region_main (sp pl W H S : Nat) (ad : Addr) (cap : Nat) (b : List Nat) (X0 Y0 X1 Y1 pw ph : Nat) (w : World) (hC : (nat .u8).C w (some ad) b.length b) (hcap : b.length ≤ cap) (h8 : ∀ i, gt b i < 256) (he : openE b = 0) (q0 : hSp b = sp) (q1 : hPl b = pl) (q2 : hW b = W) (q3 : hH b = H) (q4 : hS b = S) (r1 : X0 < X1) (r2 : X1 ≤ W) (r3 : Y0 < Y1) (r4 : Y1 ≤ H) (hpw : pw = X1 - X0) (hph : ph = Y1 - Y0) :
    Calls Try.prog 40 #[.slice (some ad) b.length cap, .agg #[.int .i64 (X0 : Int), .int .i64 (Y0 : Int), .int .i64 (X1 : Int), .int .i64 (Y1 : Int)]] w (RegP b X0 Y0 X1 Y1 sp pw ph (if b.length < partPos b (hK b) then 182 else if partPos b (hK b) < b.length then 181 else regE b X0 Y0 X1 Y1 (hK b) 0) w) := by
 have hu121 := Try.underlying121
 have hu119 := Try.underlying119
 have hu60 := Try.underlying60
 have hu105 := Try.underlying105
 have hu47 := Try.underlying47
 have hu73 := Try.underlying73
 have hu31 := Try.underlying31
 obtain ⟨oz1, oz2, oz3, oz4, oz5, oz6⟩ := open_zero he
 have hmay : mayB sp pl W H S = true := by rw [← q0, ← q1, ← q2, ← q3, ← q4]; exact oz4
 obtain ⟨m1, m2, m3, m4, m5, m6, m7, m8, m9, m10⟩ := mayB_true hmay
 have HM := Aside0.mk hmay
 have HE : Aside0 (openE b = 0) := ⟨he⟩
 obtain ⟨at0, q5⟩ : ∃ a, 16 + hN b = a := ⟨_, rfl⟩
 obtain ⟨n, hn⟩ : ∃ n, n = hK b := ⟨_, rfl⟩
 obtain ⟨ix, hix⟩ : ∃ ix, ix = idxTo b n := ⟨_, rfl⟩
 have HIX : Aside0 (idxTo b (hK b) = ix) := ⟨by rw [hix, hn]⟩
 have HIXN : Aside0 (ix.length = n) := ⟨by rw [hix, idxTo_length]⟩
 have HNK := Aside0.mk hn
 have HIX2 := Aside0.mk hix
 have HH : Aside0 (16 + hN b ≤ b.length) := ⟨oz5⟩
 have HMY : Aside0 (hMay b = true) := ⟨oz4⟩
 have HAT0 : Aside0 (at0 = partPos b 0) := ⟨q5.symm⟩
 have hnp : 0 < n := by
  rw [hn]; unfold hK tilesN
  exact Nat.mul_pos (Nat.mul_pos (acrossN_pos (by omega) (by omega)) (acrossN_pos (by omega) (by omega))) (by omega)
 have HIXP : Aside0 (0 < ix.length) := ⟨by rw [HIXN.out]; exact hnp⟩
 have HNL : Aside0 (n ≤ 1048576) := ⟨by have := hN_eq b; omega⟩
 have HWB : Aside0 (0 < W ∧ W ≤ 1024 ∧ H ≤ 1024 ∧ 0 < S ∧ S ≤ 1024 ∧ 0 < H) := ⟨by omega⟩
 have HWA : Aside0 (W * H ≤ 65536) := ⟨by omega⟩
 clear hnp
 have Q0 := Aside0.mk q0; have Q1 := Aside0.mk q1; have Q2 := Aside0.mk q2; have Q3 := Aside0.mk q3; have Q4 := Aside0.mk q4; have Q5 := Aside0.mk q5
 have HC := Aside0.mk hC
 have HCAP := Aside0.mk hcap
 have H8 := Aside0.mk h8
 have HL : Aside0 (b.length < 4611686018427387904) := ⟨by omega⟩
 have HL4 := Aside0.mk oz1
 have HSP : Aside0 (spaceE (sp : Int) pl = 0) := ⟨m10⟩
 have HP14 : Aside0 (1 ≤ pl ∧ pl ≤ 4) := ⟨⟨m3, m4⟩⟩
 obtain ⟨z, hz⟩ : ∃ z, z = (if b.length < partPos b (hK b) then 182 else if partPos b (hK b) < b.length then 181 else regE b X0 Y0 X1 Y1 (hK b) 0) := ⟨_, rfl⟩
 have HZ := Aside0.mk hz
 rw [← hz]
 have HPB : Aside0 (∀ k, k ≤ n → partPos b k ≤ 4194304 + k * 4294967300) := ⟨by rw [hn]; exact partPos_le oz5 oz1 h8⟩
 have HPL : Aside0 (∀ k, k < n → partLen b k < 4294967296) := ⟨fun k hk => partLen_lt oz5 (by rw [← hn]; exact hk) h8⟩
 have HPW := Aside0.mk hpw
 have HPH := Aside0.mk hph
 have HRC : Aside0 (X0 < X1 ∧ X1 ≤ W ∧ Y0 < Y1 ∧ Y1 ≤ H) := ⟨⟨r1, r2, r3, r4⟩⟩
 have a1 : decide ((X0 : Int) < 0) = false := decide_eq_false (by omega)
 have a2 : decide ((X1 : Int) ≤ (X0 : Int)) = false := decide_eq_false (by omega)
 have a3 : decide ((W : Int) < (X1 : Int)) = false := decide_eq_false (by omega)
 have a4 : decide ((Y0 : Int) < 0) = false := decide_eq_false (by omega)
 have a5 : decide ((Y1 : Int) ≤ (Y0 : Int)) = false := decide_eq_false (by omega)
 have a6 : decide ((H : Int) < (Y1 : Int)) = false := decide_eq_false (by omega)
 have b2 : decide (X1 ≤ X0) = false := decide_eq_false (by omega)
 have b3 : decide (W < X1) = false := decide_eq_false (by omega)
 have b5 : decide (Y1 ≤ Y0) = false := decide_eq_false (by omega)
 have b6 : decide (H < Y1) = false := decide_eq_false (by omega)
 clear hC hcap h8 he q0 q1 q2 q3 q4 q5 oz1 oz2 oz3 oz4 oz5 oz6 hmay m1 m2 m3 m4 m5 m6 m7 m8 m9 m10 hn hix hz hpw hph r1 r2 r3 r4
 go_enter Try.func40, Try.ntmps40
 go_upto_region 2 with (first | ((with_reducible refine gate_dst (N := 3) rfl ?_); refine box_event ?hg (N := 3) ?hd (cs := #[.int .i64 (X0 : Int), .int .i64 (Y0 : Int), .int .i64 (X1 : Int), .int .i64 (Y1 : Int)]) (t := 73) ?hr ?_; (case hd => rfl); (case hg => rfl); (case hr => first | (go_simp; done) | (go_simp; rfl)); intro gr hg_ w_0 hm_ hb_; have G0 := Aside0.mk (hm_); have B0 := Aside0.mk (hb_); clear hm_ hb_ hg_) | ((with_reducible refine gate_dst (N := 4) rfl ?_); refine box_event ?hg (N := 4) ?hd (cs := #[.int .i64 0, .slice none 0 0]) (t := 47) ?hr ?_; (case hd => rfl); (case hg => rfl); (case hr => first | (go_simp; done) | (go_simp; rfl)); intro gR hg_ w1 hm_ hb_; have G1 := Aside0.mk (blk_below G0.out hb_); have R1 := Aside0.mk (hm_); have B1 := Aside0.mk (below_step B0.out hb_); have GR := Aside0.mk (show w.heap.size ≤ gR by rw [hg_]; exact below_size B0.out); clear hm_ hb_ hg_) | (go_at_call 75; with_reducible refine (opened_calls (some ad) cap b _ ?h1 HCAP.out H8.out HL.out).mono ?_; (case h1 => exact Kd.C_below HC.out B1.out); unfold OpenPost; rintro e w3 ⟨hb, hor⟩; obtain ⟨_, gT, vi, he, hgT, hTB, hV⟩ := hor.resolve_left (fun h => absurd HE.out h.1); rw [Q0.out, Q1.out, Q2.out, Q3.out, Q4.out, Q5.out] at he; rw [HIX.out] at hV; obtain ⟨av, cv, hvi⟩ := Kd.R_slice1 hV HIXP.out; rw [HIXN.out] at hvi; subst hvi; subst he; have IV3 := Aside0.mk (Kd.R_lower hV B1.out.size); have T3 := Aside0.mk hTB; have R3 := Aside0.mk (blk_below R1.out hb); have G3 := Aside0.mk (blk_below G1.out hb); have B3 := Aside0.mk (below_step B1.out hb); clear hb hor hV hTB hgT) | ((with_reducible refine gate_dst (N := 7) rfl ?_); refine box_event ?hg (N := 7) ?hd (cs := #[.int .i64 0, .int .i64 0, .int .i64 0, .int .i64 0, .int .i64 0, .pointer none, .slice none 0 0, .slice none 0 0, .int .i64 0]) (t := 121) ?hr ?_; (case hd => rfl); (case hg => rfl); (case hr => first | (go_simp; done) | (go_simp; rfl)); intro gf hg_ w4 hm_ hb_; have R4 := Aside0.mk (blk_below R3.out hb_); have G4 := Aside0.mk (blk_below G3.out hb_); have F4 := Aside0.mk (hm_); have B4 := Aside0.mk (below_step B3.out hb_); have T4 := Aside0.mk (T3.out.below hb_); have IV4 := Aside0.mk (Kd.R_below IV3.out hb_); have GF := Aside0.mk (show w.heap.size ≤ gf by rw [hg_]; exact below_size B3.out); have NRF := Aside0.mk (blk_ne R4.out F4.out (by decide)); have NGF := Aside0.mk (blk_ne G4.out F4.out (by decide)); have p0 := (blk_cell F4.out 0).trans rfl; have p1 := (blk_cell F4.out 1).trans rfl; have p2 := (blk_cell F4.out 2).trans rfl; have p3 := (blk_cell F4.out 3).trans rfl; have p4 := (blk_cell F4.out 4).trans rfl; have p5 := (blk_cell F4.out 5).trans rfl; have p6 := (blk_cell F4.out 6).trans rfl; have p7 := (blk_cell F4.out 7).trans rfl; have p8 := (blk_cell F4.out 8).trans rfl; have fp0 := blk_frozen F4.out 0; have fp1 := blk_frozen F4.out 1; have fp2 := blk_frozen F4.out 2; have fp3 := blk_frozen F4.out 3; have fp4 := blk_frozen F4.out 4; have fp5 := blk_frozen F4.out 5; have fp6 := blk_frozen F4.out 6; have fp7 := blk_frozen F4.out 7; have fp8 := blk_frozen F4.out 8; obtain ⟨ct, hct⟩ := T4.out.block; have NTF := Aside0.mk (blk_ne hct F4.out (by decide)); clear hct; have X5 := Aside0.mk (put9 (x0 := .int .i64 (sp : Int)) (x1 := .int .i64 (pl : Int)) (x2 := .int .i64 (W : Int)) (x3 := .int .i64 (H : Int)) (x4 := .int .i64 (S : Int)) (x5 := .pointer (some ⟨gT, 0, none⟩)) (x6 := .slice (some av) n cv) (x7 := .slice (some ad) b.length cap) (x8 := .int .i64 (at0 : Int)) F4.out rfl); have R5 := Aside0.mk ((X5.out.2.1 gR NRF.out).trans R4.out); have G5 := Aside0.mk ((X5.out.2.1 gr NGF.out).trans G4.out); have F5 := Aside0.mk (X5.out.1); have B5 := Aside0.mk (B4.out.trans (X5.out.2.2 _ GF.out)); have T5 := Aside0.mk (T4.out.move (X5.out.2.1 gT NTF.out)); have IV5 := Aside0.mk (Kd.R_mono (Kd.R_move (Kd.R_types IV4.out F4.out (by decide)) (fun k hk => X5.out.2.1 k hk.2)) (fun _ _ => trivial)); have o0 := (blk_cell R5.out 0).trans rfl; have o1 := (blk_cell R5.out 1).trans rfl; have fo0 := blk_frozen R5.out 0; have fo1 := blk_frozen R5.out 1; have g0 := (blk_cell G5.out 0).trans rfl; have g1 := (blk_cell G5.out 1).trans rfl; have g2 := (blk_cell G5.out 2).trans rfl; have g3 := (blk_cell G5.out 3).trans rfl; have y0 := (blk_cell F5.out 0).trans rfl; have y1 := (blk_cell F5.out 1).trans rfl; have y2 := (blk_cell F5.out 2).trans rfl; have y3 := (blk_cell F5.out 3).trans rfl; have y4 := (blk_cell F5.out 4).trans rfl; clear hm_ hb_ hg_))
 generalize (((((((((w4.setCell ⟨gf, 0, none⟩ (.int .i64 (sp : Int))).setCell ⟨gf, 1, none⟩ (.int .i64 (pl : Int))).setCell ⟨gf, 2, none⟩ (.int .i64 (W : Int))).setCell ⟨gf, 3, none⟩ (.int .i64 (H : Int))).setCell ⟨gf, 4, none⟩ (.int .i64 (S : Int))).setCell ⟨gf, 5, none⟩ (.pointer (some ⟨gT, 0, none⟩))).setCell ⟨gf, 6, none⟩ (.slice (some av) n cv)).setCell ⟨gf, 7, none⟩ (.slice (some ad) b.length cap)).setCell ⟨gf, 8, none⟩ (.int .i64 (at0 : Int))) = w6 at *
 clear p0 p1 p2 p3 p4 p5 p6 p7 p8 fp0 fp1 fp2 fp3 fp4 fp5 fp6 fp7 fp8 R4 G4 F4 B4 T4 IV4 X5 NTF
 have y6 := (blk_cell F5.out 6).trans rfl
 have y8 := (blk_cell F5.out 8).trans rfl
 go_wp2
 clear a1 a2 a3 a4 a5 a6 b2 b3 b5 b6 y6 y8
 go_loop [9, 78] (fun e i => ∃ k : Nat, k ≤ n ∧ i = .int .i64 (k : Int) ∧ e = .int .i64 (partPos b k : Int)) (fun _ i => n - (intOf i).toNat)
 case atStart => exact ⟨0, Nat.zero_le _, rfl, by rw [HAT0.out]⟩
 case round =>
  obtain ⟨k, hk, rfl, rfl⟩ := hrel
  by_cases hlt : k < n
  ·have c1 : decide ((k : Int) < (n : Int)) = true := decide_eq_true (by omega)
   have c2 : decide (k < n) = true := decide_eq_true hlt
   have i1 : ((k : Int) < (n : Int)) = True := eq_true (by omega)
   have i2 : (k < n) = True := eq_true hlt
   obtain ⟨ln, hln⟩ : ∃ r, r = partLen b k := ⟨_, rfl⟩
   obtain ⟨at1, hat1⟩ : ∃ r, r = partPos b k := ⟨_, rfl⟩
   obtain ⟨at2, hat2⟩ : ∃ r, r = partPos b (k + 1) := ⟨_, rfl⟩
   have hx := (idx_cell (v := ln) IV5.out F5.out HIXN.out hlt (by rw [HIX2.out, hln, HNK.out]; exact gt_idxTo (by rw [← HNK.out]; exact hlt))).1
   have hnl := HNL.out
   have h1 : at1 ≤ 4194304 + k * 4294967300 := by rw [hat1]; exact HPB.out k hk
   have h2 : ln < 4294967296 := by rw [hln]; exact HPL.out k hlt
   have h3 : at2 = at1 + ln + 4 := by rw [hat1, hln, hat2]; rfl
   have h4 : at1 < 4611686018427387904 := by omega
   have H3 := Aside0.mk h3
   have HLT := Aside0.mk hlt
   have HA2 := Aside0.mk hat2
   rw [← hat1]
   clear hat1 hat2 hln h1 h3 hlt
   go_wp2
   have hlt := HLT.out
   go_round
   case rel => exact ⟨k + 1, by omega, by go_num, by rw [← HA2.out]; have := H3.out; congr 1; omega⟩
   case measure => simp [intOf]; omega
  ·obtain rfl : n = k := by omega
   have c1 : decide ((n : Int) < (n : Int)) = false := decide_eq_false (by omega)
   obtain ⟨atn, hatn⟩ : ∃ r, r = partPos b n := ⟨_, rfl⟩
   have hnl := HNL.out
   have h1 : atn ≤ 4194304 + n * 4294967300 := by rw [hatn]; exact HPB.out n hk
   have HAN := Aside0.mk hatn
   have h4 : atn < 4611686018427387904 := by omega
   rw [← hatn]
   clear hatn h1 hlt
   by_cases hgt : b.length < atn
   ·have t1 : decide ((b.length : Int) < (atn : Int)) = true := decide_eq_true (by omega)
    have t2 : decide (b.length < atn) = true := decide_eq_true hgt
    have HZ2 : Aside0 (z = 182) := ⟨by rw [HZ.out, ← HNK.out, ← HAN.out, if_pos hgt]⟩
    clear hgt
    go_wp2
    obtain ⟨wz, hwz⟩ : ∃ wz, wz = (w6.setCell ⟨gR, 0, none⟩ (.int .i64 0)).setCell ⟨gR, 1, none⟩ (.slice none 0 0) := ⟨_, rfl⟩
    rw [← hwz]
    obtain ⟨hGz, hstz, hblz⟩ := put2 R5.out hwz
    refine bodyPost_ret (results_ctt rfl _ _ gR 47 #[.int .i64 0, .slice none 0 0] (0, 0) _ rfl hGz Try.underlying47 rfl (by kernel_rfl)) rfl ?_
    exact ⟨B5.out.trans (hblz _ GR.out), .inl ⟨by rw [HZ2.out]; decide, by rw [HZ2.out]; rfl⟩⟩
   ·have t1 : decide ((b.length : Int) < (atn : Int)) = false := decide_eq_false (by omega)
    have t2 : decide (b.length < atn) = false := decide_eq_false hgt
    by_cases hlt2 : atn < b.length
    ·have t3 : decide ((atn : Int) < (b.length : Int)) = true := decide_eq_true (by omega)
     have t4 : decide (atn < b.length) = true := decide_eq_true hlt2
     have HZ2 : Aside0 (z = 181) := ⟨by rw [HZ.out, ← HNK.out, ← HAN.out, if_neg hgt, if_pos hlt2]⟩
     clear hgt hlt2
     go_wp2
     obtain ⟨wz, hwz⟩ : ∃ wz, wz = (w6.setCell ⟨gR, 0, none⟩ (.int .i64 0)).setCell ⟨gR, 1, none⟩ (.slice none 0 0) := ⟨_, rfl⟩
     rw [← hwz]
     obtain ⟨hGz, hstz, hblz⟩ := put2 R5.out hwz
     refine bodyPost_ret (results_ctt rfl _ _ gR 47 #[.int .i64 0, .slice none 0 0] (0, 0) _ rfl hGz Try.underlying47 rfl (by kernel_rfl)) rfl ?_
     exact ⟨B5.out.trans (hblz _ GR.out), .inl ⟨by rw [HZ2.out]; decide, by rw [HZ2.out]; rfl⟩⟩
    ·have t3 : decide ((atn : Int) < (b.length : Int)) = false := decide_eq_false (by omega)
     have t4 : decide (atn < b.length) = false := decide_eq_false hlt2
     have HZ2 : Aside0 (z = regE b X0 Y0 X1 Y1 n 0) := ⟨by rw [HZ.out, ← HNK.out, ← HAN.out, if_neg hgt, if_neg hlt2]⟩
     have HAL : Aside0 (partPos b n = b.length) := ⟨by rw [← HAN.out]; omega⟩
     clear hgt hlt2
     have HWB' := HWB.out; have HRC' := HRC.out
     have HSZ : Aside0 (sizeB (pw : Int) (ph : Int) = true) := ⟨by
      have h1 := HPW.out; have h2 := HPH.out
      have h3 : pw * ph ≤ W * H := Nat.mul_le_mul (by omega) (by omega)
      have h4 := HWA.out
      unfold sizeB
      simp only [Bool.and_eq_true, decide_eq_true_eq]
      refine ⟨⟨⟨⟨by omega, by omega⟩, by omega⟩, by omega⟩, ?_⟩
      have h : ((pw * ph : Nat) : Int) ≤ 65536 := by omega
      simpa using h⟩
     obtain ⟨ss0, hss0⟩ : ∃ ss, ss = regLaid b X0 Y0 X1 Y1 0 := ⟨_, rfl⟩
     have HS0 : Aside0 (List.replicate pl (List.replicate (pw * ph) 0) = ss0) := ⟨by rw [hss0, HPW.out, HPH.out, ← Q1.out]; rfl⟩
     have HS00 := Aside0.mk hss0
     have e1 := wrapI (z := (X1 : Int) - (X0 : Int)) (d := pw) (by have := HPW.out; omega) (by have := HPW.out; omega)
     have e2 := wrapI (z := (Y1 : Int) - (Y0 : Int)) (d := ph) (by have := HPH.out; omega) (by have := HPH.out; omega)
     have y0 := (blk_cell F5.out 0).trans rfl
     have y1 := (blk_cell F5.out 1).trans rfl
     have y6 := (blk_cell F5.out 6).trans rfl
     clear HWB' HRC' hss0 o0 o1 fo0 fo1
     go_upto_region 17 with (first | (go_at_call 76; with_reducible refine (New_zero HP14.out.1 HP14.out.2 HSZ.out HSP.out HS0.out).mono ?_; rintro e w7 ⟨Ap, cp, hs, rfl, hP, hb⟩; have PO7 := Aside0.mk hP; have R7 := Aside0.mk (blk_below R5.out hb); have F7 := Aside0.mk (blk_below F5.out hb); have G7 := Aside0.mk (blk_below G5.out hb); have T7 := Aside0.mk (T5.out.below hb); have IV7 := Aside0.mk (Kd.R_below IV5.out hb); have B7 := Aside0.mk (below_step B5.out hb); clear hb hP y0 y1 y2 y3 y4 y6 g0 g1 g2 g3) | ((with_reducible refine gate_dst (N := 12) rfl ?_); refine box_event ?hg (N := 12) ?hd (cs := #[.int .i64 0, .slice none 0 0]) (t := 47) ?hr ?_; (case hd => rfl); (case hg => rfl); (case hr => first | (go_simp; done) | (go_simp; rfl)); intro gp hg_ w8 hm_ hb_; have X9 := Aside0.mk (put2 (x := .int .i64 (sp : Int)) (y := .slice Ap pl cp) hm_ rfl); have HB9 := Aside0.mk ((show Below w7.heap.size w7 w8 from hb_).trans (X9.out.2.2 _ (by rw [hg_]; exact Nat.le_refl _))); have P8 := Aside0.mk hm_; have o0 := (blk_cell P8.out 0).trans rfl; have o1 := (blk_cell P8.out 1).trans rfl; have fo0 := blk_frozen P8.out 0; have fo1 := blk_frozen P8.out 1; have PO9 := Aside0.mk (PO7.out.below HB9.out); have R9 := Aside0.mk (blk_below R7.out HB9.out); have F9 := Aside0.mk (blk_below F7.out HB9.out); have G9 := Aside0.mk (blk_below G7.out HB9.out); have T9 := Aside0.mk (T7.out.below HB9.out); have IV9 := Aside0.mk (Kd.R_below IV7.out HB9.out); have B9 := Aside0.mk (below_step B7.out HB9.out); have P9 := Aside0.mk (X9.out.1); clear hm_ hb_ hg_))
     obtain ⟨ap, cpx, hap⟩ := Kd.R_slice1 PO9.out.row (by rw [List.length_map, PO9.out.len, ← HS0.out, List.length_replicate]; exact HP14.out.1)
     have hpl : (hs.map fun x => (pw, ph, x)).length = pl := by rw [List.length_map, PO9.out.len, ← HS0.out, List.length_replicate]
     rw [hpl] at hap
     injection hap with hap1 _ hap3
     subst hap1
     subst hap3
     clear hpl
     have HHL : Aside0 (hs.length = pl) := ⟨by rw [PO9.out.len, ← HS0.out, List.length_replicate]⟩
     have D0 : Aside0 (RI w gR gf gp gT gr sp pl W H S (.slice (some av) n cv) ix (.slice (some ad) b.length cap) (.slice (some ap) pl cp) (.slice none 0 0) hs X0 Y0 X1 Y1 pw ph at0 ss0 [] ((w8.setCell ⟨gp, 0, none⟩ (.int .i64 (sp : Int))).setCell ⟨gp, 1, none⟩ (.slice (some ap) pl cp))) := ⟨⟨R9.out, F9.out, P9.out, G9.out, T9.out, nat_self IV9.out, Kd.R_nil _ _ _ _ _, fun k _ h => by simp [Value.ownBlock] at h, PO9.out.lower B5.out.size, B9.out⟩⟩
     clear R9 F9 P9 G9 T9 IV9 PO9 B9 R7 F7 G7 T7 IV7 PO7 B7 R5 F5 G5 T5 IV5 B5 X9 HB9 P8
     generalize (w8.setCell ⟨gp, 0, none⟩ (.int .i64 (sp : Int))).setCell ⟨gp, 1, none⟩ (.slice (some ap) pl cp) = w9 at *
     have y6 := (blk_cell D0.out.hF 6).trans rfl
     go_wp2
     clear y6 h4 hnl hk
     go_loopw [14, 124] (fun v i W' => ∃ k : Nat, k ≤ n ∧ i = .int .i64 (k : Int) ∧ Aside0 (RI w gR gf gp gT gr sp pl W H S (.slice (some av) n cv) ix (.slice (some ad) b.length cap) (.slice (some ap) pl cp) v hs X0 Y0 X1 Y1 pw ph (partPos b k) (regLaid b X0 Y0 X1 Y1 k) (regRead b X0 Y0 X1 Y1 k) W' ∧ regE b X0 Y0 X1 Y1 (n - k) k = regE b X0 Y0 X1 Y1 n 0)) (fun _ i _ => n - (intOf i).toNat)
     case atStart => exact ⟨0, Nat.zero_le _, rfl, ⟨by rw [← HAT0.out, ← HS00.out]; exact D0.out, rfl⟩⟩
     case round =>
      clear D0
      obtain ⟨k, hk, rfl, HI⟩ := hrel
      by_cases hlt : k < n
      ·have c1 : decide ((k : Int) < (n : Int)) = true := decide_eq_true (by omega)
       have c2 : decide (k < n) = true := decide_eq_true hlt
       have i1 : ((k : Int) < (n : Int)) = True := eq_true (by omega)
       have i2 : (k < n) = True := eq_true hlt
       have HLT := Aside0.mk hlt
       have pl1 : 1 ≤ pl := HP14.out.1
       obtain ⟨t, ht⟩ : ∃ t, t = k / pl := ⟨_, rfl⟩
       obtain ⟨j, hj⟩ : ∃ j, j = k % pl := ⟨_, rfl⟩
       have HT_ := Aside0.mk ht
       have HJ_ := Aside0.mk hj
       have HJL : Aside0 (j < hs.length) := ⟨by rw [HHL.out, hj]; exact Nat.mod_lt _ (by omega)⟩
       obtain ⟨x0, hx0⟩ : ∃ r, r = pX0 b k := ⟨_, rfl⟩
       obtain ⟨y0, hy0⟩ : ∃ r, r = pY0 b k := ⟨_, rfl⟩
       obtain ⟨x1, hx1⟩ : ∃ r, r = pX1 b k := ⟨_, rfl⟩
       obtain ⟨y1, hy1⟩ : ∃ r, r = pY1 b k := ⟨_, rfl⟩
       obtain ⟨dw, hdw⟩ : ∃ r, r = pDw b k := ⟨_, rfl⟩
       obtain ⟨dh, hdh⟩ : ∃ r, r = pDh b k := ⟨_, rfl⟩
       obtain ⟨zs, hzs⟩ : ∃ r, r = partV b k := ⟨_, rfl⟩
       obtain ⟨ln, hln⟩ : ∃ r, r = partLen b k := ⟨_, rfl⟩
       obtain ⟨at1, hat1⟩ : ∃ r, r = partPos b k := ⟨_, rfl⟩
       obtain ⟨at2, hat2⟩ : ∃ r, r = partPos b (k + 1) := ⟨_, rfl⟩
       obtain ⟨ss, hss⟩ : ∃ r, r = regLaid b X0 Y0 X1 Y1 k := ⟨_, rfl⟩
       obtain ⟨rd, hrd⟩ : ∃ r, r = regRead b X0 Y0 X1 Y1 k := ⟨_, rfl⟩
       rw [← hat1, ← hss, ← hrd] at HI
       have HWB' := HWB.out
       have hnl := HNL.out
       have htl : t ≤ k := by rw [ht]; exact Nat.div_le_self _ _
       have HRECT : Aside0 (codec_grid_rect.f (sp : Int) (pl : Int) (W : Int) (H : Int) (S : Int) (t : Int) = some ((x0 : Int), (y0 : Int), (x1 : Int), (y1 : Int))) := ⟨by
        rw [rect_f (sp : Int) (pl : Int) W H S t (by omega) (by omega) (by omega) (by omega) (by omega) (by omega), hx1, hy1, hx0, hy0, ht, ← Q1.out]
        unfold pX1 pY1 pX0 pY0
        rw [Q2.out, Q3.out, Q4.out, Q1.out]⟩
       obtain ⟨d1, d2, d3, d4, d5, d6, d7, d8, d9⟩ := part_dims HMY.out (by rw [← HNK.out]; exact hlt)
       rw [← hdw, ← hx0, ← hx1] at d1
       rw [← hdh, ← hy0, ← hy1] at d2
       rw [← hdw] at d3 d5 d7
       rw [← hdh] at d4 d6 d7
       rw [← hx1] at d8
       rw [← hy1] at d9
       have HDB : Aside0 (dw ≤ 1024 ∧ dh ≤ 1024 ∧ x0 ≤ 1024 ∧ y0 ≤ 1024 ∧ x1 ≤ 1024 ∧ y1 ≤ 1024) := ⟨by omega⟩
       have HPS : Aside0 ((ss.getD j []).length = pw * ph) := ⟨by rw [hss, HPW.out, HPH.out]; exact regLaid_pl k j (by rw [Q1.out, ← HHL.out]; exact HJL.out)⟩
       clear d1 d2 d3 d4 d5 d6 d7 d8 d9
       have HX0 := Aside0.mk hx0; have HY0 := Aside0.mk hy0; have HX1 := Aside0.mk hx1; have HY1 := Aside0.mk hy1; have HDW := Aside0.mk hdw; have HDH := Aside0.mk hdh; have HZS := Aside0.mk hzs; have HA1 := Aside0.mk hat1; have HA2 := Aside0.mk hat2; have HSS := Aside0.mk hss; have HRD := Aside0.mk hrd; have HLN := Aside0.mk hln
       have D1 := Aside0.mk HI.out.1
       have E1 := Aside0.mk HI.out.2
       have L2 : Aside0 (at2 ≤ b.length ∧ at2 = at1 + ln + 4) := ⟨by
        have h := partPos_mono b (k + 1) (n - (k + 1))
        rw [show k + 1 + (n - (k + 1)) = n by omega, HAL.out, ← hat2] at h
        exact ⟨by omega, by rw [hat2, hat1, hln]; rfl⟩⟩
       have hpi : ((k : Int) / (pl : Int)) = (t : Int) := by rw [ht]; exact (Int.natCast_ediv _ _).symm
       have hki : ((k : Int) % (pl : Int)) = (j : Int) := by rw [hj]; exact (Int.natCast_emod _ _).symm
       have htw : wrap64 (t : Int) = (t : Int) := w64 (n := (t : Int)) (by omega) (by omega)
       have WPI := Aside0.mk (show wrap64 ((k : Int) / (pl : Int)) = (t : Int) by rw [hpi]; exact htw)
       have WKI := Aside0.mk hki
       have hx := (idx_cell (v := ln) D1.out.hI D1.out.hF HIXN.out hlt (by rw [HIX2.out, hln, HNK.out]; exact gt_idxTo (by rw [← HNK.out]; exact hlt))).1
       clear ht hj hx0 hy0 hx1 hy1 hdw hdh hzs hat1 hat2 hss hrd hln HWB' hnl htl hpi hki htw HI hlt
       have q1 := (blk_cell D1.out.hF 1).trans rfl
       go_wp2
       go_quiet (fail)
       clear q1 hx
       obtain ⟨wd, hwd⟩ : ∃ wd, wr.drewN nq = wd := ⟨_, rfl⟩
       have D1' : Aside0 (RI w gR gf gp gT gr sp pl W H S (.slice (some av) n cv) ix (.slice (some ad) b.length cap) (.slice (some ap) pl cp) u14 hs X0 Y0 X1 Y1 pw ph at1 ss rd wd) := ⟨D1.out.below (below_at hwd (Below.refl _ _))⟩
       simp only [WPI.out, WKI.out, hwd]
       clear D1 WPI WKI
       have q0 := (blk_cell D1'.out.hF 0).trans rfl
       have q1 := (blk_cell D1'.out.hF 1).trans rfl
       have q2 := (blk_cell D1'.out.hF 2).trans rfl
       have q3 := (blk_cell D1'.out.hF 3).trans rfl
       have q4 := (blk_cell D1'.out.hF 4).trans rfl
       go_upto_region 23 with (first | (go_at_call 68; with_reducible refine (codec_grid_rect.calls _ _ _ _ _ _ _ _ _ _ _ HRECT.out).mono ?_; rintro e w2 ⟨rfl, hb⟩; have I2 := Aside0.mk (D1'.out.below hb); clear hb) | ((with_reducible refine gate_dst (N := 19) rfl ?_); refine box_event ?hg (N := 19) ?hd (cs := #[.int .i64 0, .int .i64 0, .int .i64 0, .int .i64 0]) (t := 73) ?hr ?_; (case hd => rfl); (case hg => rfl); (case hr => first | (go_simp; done) | (go_simp; rfl)); intro gq hg_ w3 hm_ hb_; have X4 := Aside0.mk (put4 (x := .int .i64 (x0 : Int)) (y := .int .i64 (y0 : Int)) (z := .int .i64 (x1 : Int)) (u := .int .i64 (y1 : Int)) hm_ rfl); have I4 := Aside0.mk (I2.out.below ((show Below w2.heap.size w2 w3 from hb_).trans (X4.out.2.2 _ (by rw [hg_]; exact Nat.le_refl _)))); have Q4 := Aside0.mk (X4.out.1); have yy0 := (blk_cell Q4.out 0).trans rfl; have yy1 := (blk_cell Q4.out 1).trans rfl; have yy2 := (blk_cell Q4.out 2).trans rfl; have yy3 := (blk_cell Q4.out 3).trans rfl; have Q3 := Aside0.mk hm_; have o0 := (blk_cell Q3.out 0).trans rfl; have o1 := (blk_cell Q3.out 1).trans rfl; have o2 := (blk_cell Q3.out 2).trans rfl; have o3 := (blk_cell Q3.out 3).trans rfl; have fo0 := blk_frozen Q3.out 0; have fo1 := blk_frozen Q3.out 1; have fo2 := blk_frozen Q3.out 2; have fo3 := blk_frozen Q3.out 3; clear hm_ hb_ hg_ X4 Q3 q0 q1 q2 q3 q4))
       generalize (((w3.setCell ⟨gq, 0, none⟩ (.int .i64 (x0 : Int))).setCell ⟨gq, 1, none⟩ (.int .i64 (y0 : Int))).setCell ⟨gq, 2, none⟩ (.int .i64 (x1 : Int))).setCell ⟨gq, 3, none⟩ (.int .i64 (y1 : Int)) = wp at *
       clear o0 o1 o2 o3 fo0 fo1 fo2 fo3
       have g0 := (blk_cell I4.out.hG 0).trans rfl
       have g1 := (blk_cell I4.out.hG 1).trans rfl
       have g2 := (blk_cell I4.out.hG 2).trans rfl
       have g3 := (blk_cell I4.out.hG 3).trans rfl
       have f8 := (blk_cell I4.out.hF 8).trans rfl
       have ff8 := blk_frozen I4.out.hF 8
       have hb1 : at1 ≤ 4194304 := by have := L2.out; have := HL4.out; omega
       have hb2 : ln ≤ 4194304 := by have := L2.out; have := HL4.out; omega
       have ea : (at1 : Int) + ((ln : Int) + 4) = (at2 : Int) := by have := L2.out; omega
       obtain ⟨ma, hma⟩ : ∃ r, r = max x0 X0 := ⟨_, rfl⟩
       obtain ⟨mb, hmb⟩ : ∃ r, r = min x1 X1 := ⟨_, rfl⟩
       obtain ⟨mc, hmc⟩ : ∃ r, r = max y0 Y0 := ⟨_, rfl⟩
       obtain ⟨md, hmd⟩ : ∃ r, r = min y1 Y1 := ⟨_, rfl⟩
       have m1 : (if x0 < X0 then (X0 : Int) else (x0 : Int)) = (ma : Int) := by split <;> omega
       have m2 : (if X1 < x1 then (X1 : Int) else (x1 : Int)) = (mb : Int) := by split <;> omega
       have m3 : (if y0 < Y0 then (Y0 : Int) else (y0 : Int)) = (mc : Int) := by split <;> omega
       have m4 : (if Y1 < y1 then (Y1 : Int) else (y1 : Int)) = (md : Int) := by split <;> omega
       have HOV : Aside0 (ovl b X0 Y0 X1 Y1 k = (decide (ma < mb) && decide (mc < md))) := ⟨by unfold ovl; rw [← HX0.out, ← HX1.out, ← HY0.out, ← HY1.out, hma, hmb, hmc, hmd]⟩
       clear hma hmb hmc hmd
       by_cases hv : ma < mb ∧ mc < md
       ·have t1 : decide ((mb : Int) ≤ (ma : Int)) = false := decide_eq_false (by omega)
        have t2 : decide (mb ≤ ma) = false := decide_eq_false (by omega)
        have t3 : decide ((md : Int) ≤ (mc : Int)) = false := decide_eq_false (by omega)
        have t4 : decide (md ≤ mc) = false := decide_eq_false (by omega)
        have HV : Aside0 (ovl b X0 Y0 X1 Y1 k = true) := ⟨by rw [HOV.out, decide_eq_true hv.1, decide_eq_true hv.2]; rfl⟩
        clear hv
        go_upto_if 168 with (fail)
        by_cases hE : partE b k = 0
        ·have HE0 := Aside0.mk hE
         obtain ⟨p1, p2, rs, p3⟩ := partE_zero hE
         have HQS : Aside0 (zs.length = dw * dh) := ⟨by
          have h1 := (dec_one (subN_lt H8.out) p3).1
          rw [HZS.out, HDW.out, HDH.out]
          unfold partV
          rw [p3]
          exact (planeTo_length _ _ _).trans h1⟩
         have hdb := HDB.out
         have hrc := HRC.out
         have hwb := HWB.out
         have hpw := HPW.out
         have hph := HPH.out
         have HPWB : Aside0 (0 < pw ∧ pw ≤ 1024 ∧ ph ≤ 1024) := ⟨by omega⟩
         obtain ⟨xo, hxo⟩ : ∃ r : Int, r = (x0 : Int) - (X0 : Int) := ⟨_, rfl⟩
         obtain ⟨yo, hyo⟩ : ∃ r : Int, r = (y0 : Int) - (Y0 : Int) := ⟨_, rfl⟩
         have HOFF : Aside0 (-1048576 ≤ xo ∧ xo ≤ 1048576 ∧ -1048576 ≤ yo ∧ yo ≤ 1048576) := ⟨by omega⟩
         have HE3 : Aside0 (IntKind.i64.wrap ((x0 : Int) - (X0 : Int)) = xo) := ⟨by rw [← hxo]; simp only [IntKind.wrap_i64]; omega⟩
         have HE4 : Aside0 (IntKind.i64.wrap ((y0 : Int) - (Y0 : Int)) = yo) := ⟨by rw [← hyo]; simp only [IntKind.wrap_i64]; omega⟩
         obtain ⟨ss2, hss2⟩ : ∃ r, r = regLaid b X0 Y0 X1 Y1 (k + 1) := ⟨_, rfl⟩
         have HS2 : Aside0 (ss2 = ss.set j (pasteN (ss.getD j []) zs pw dw dh xo yo)) := ⟨by
          rw [hss2, regLaid, if_pos HV.out, HSS.out, HJ_.out, HZS.out, HPW.out, HDW.out, HDH.out, hxo, hyo, HX0.out, HY0.out, Q1.out]⟩
         have HSS2 := Aside0.mk hss2
         clear hE p1 p2 p3 hdb hrc hwb hpw hph hxo hyo hss2 t1 t2 t3 t4 m1 m2 m3 m4 g0 g1 g2 g3 f8 ff8 ea hb1 hb2
         go_upto_region 26 with (first | (go_at_call 77; with_reducible refine (part_goodF HNK.out HIX2.out HA1.out HA2.out HX0.out HY0.out HX1.out HY1.out HDW.out HDH.out HZS.out GF.out HLT.out HC.out HCAP.out H8.out HL4.out HMY.out HE0.out I4.out.hF I4.out.hT I4.out.hI I4.out.hB).mono ?_; rintro e w5 ⟨Az, cz, rfl, hR, hF, hg⟩; have V5 := Aside0.mk hR; have I5 := Aside0.mk (I4.out.part hg GF.out hF); have Q5 := Aside0.mk (blk_past Q4.out I4.out.hF (by decide) hg); have O4 := Aside0.mk I4.out.hO; clear hR hF hg yy0 yy1 yy2 yy3) | ((with_reducible refine gate_dst (N := 20) rfl ?_); refine box_event ?hg (N := 20) ?hd (cs := #[.int .i64 0, .int .i64 0, .slice none 0 0]) (t := 31) ?hr ?_; (case hd => rfl); (case hg => rfl); (case hr => first | (go_simp; done) | (go_simp; rfl)); intro gz hg_ w6 hm_ hb_; have X6 := Aside0.mk (put3 (x := .int .i64 (dw : Int)) (y := .int .i64 (dh : Int)) (z := .slice Az zs.length cz) hm_ rfl); have HB6 := Aside0.mk ((show Below w5.heap.size w5 w6 from hb_).trans (X6.out.2.2 _ (by rw [hg_]; exact Nat.le_refl _))); have I6 := Aside0.mk (I5.out.below HB6.out); have Q6 := Aside0.mk (blk_below Q5.out HB6.out); have V6 := Aside0.mk (Kd.R_below V5.out HB6.out); have Z6 := Aside0.mk (X6.out.1); have Z5 := Aside0.mk hm_; have o0 := (blk_cell Z5.out 0).trans rfl; have o1 := (blk_cell Z5.out 1).trans rfl; have o2 := (blk_cell Z5.out 2).trans rfl; have fo0 := blk_frozen Z5.out 0; have fo1 := blk_frozen Z5.out 1; have fo2 := blk_frozen Z5.out 2; clear hm_ hb_ hg_ X6 HB6 Z5))
         generalize ((w6.setCell ⟨gz, 0, none⟩ (.int .i64 (dw : Int))).setCell ⟨gz, 1, none⟩ (.int .i64 (dh : Int))).setCell ⟨gz, 2, none⟩ (.slice Az zs.length cz) = wq at *
         clear o0 o1 o2 fo0 fo1 fo2
         by_cases hj : j = 0
         ·have t1 : ((j : Int) == 0) = true := by rw [beq_iff_eq]; omega
          have t2 : (j == 0) = true := by rw [beq_iff_eq]; exact hj
          obtain ⟨rd2, hrd2⟩ : ∃ r, r = rd ++ [t] := ⟨_, rfl⟩
          have HRD2 : Aside0 (rd2 = regRead b X0 Y0 X1 Y1 (k + 1)) := ⟨by rw [hrd2, regRead, if_pos ⟨HV.out, by rw [Q1.out, ← HJ_.out]; exact hj⟩, HRD.out, HT_.out, Q1.out]⟩
          have HRDE : Aside0 (rd ++ [t] = rd2) := ⟨hrd2.symm⟩
          have HRL : Aside0 ((rd.length + 1) * 8 ≤ 140737488355328) := ⟨by have h1 := regRead_len b X0 Y0 X1 Y1 k; rw [← HRD.out] at h1; have := HNL.out; have := HLT.out; omega⟩
          clear hj hrd2
          go_upto_region 30 with ((with_reducible refine gate_builtin (b := .append) (xs := #[.tmp 189, .tmp 191]) rfl ?_); at_builtin; refine Kd.R_append (nat .i64) (w0 := w) w.heap.size rfl (.tmp 189) (.tmp 191) 62 3 (.int .i64 0) 8 rfl Try.underlying62 info3 rfl (by decide) (by decide) u14 rd t [.int .i64 (t : Int)] (fun _ => True) (fun _ => False) rfl rfl rfl (fun _ hk => hk.elim) (fun _ _ => trivial) ?aO ?aB ?aS ?aL ?_; (case aO => exact Kd.R_mono I6.out.hV (fun _ _ => trivial)); (case aB => exact I6.out.hB); (case aS => exact I6.out.hB.size); (case aL => exact HRL.out); intro v7 w7 hR hB hg hat; rw [HRDE.out] at hR; have I7 := Aside0.mk (I6.out.told hR hB hg hat); have Q7 := Aside0.mk (I6.out.far hg Q6.out (by decide)); have Z7 := Aside0.mk (I6.out.far hg Z6.out (by decide)); have V7 := Aside0.mk (I6.out.words hg V6.out); clear hR hB hg hat)
          clear I6 Q6 Z6 V6 t1 t2
          have p1 := (blk_cell I7.out.hP 1).trans rfl
          have x_0 := (blk_cell Q7.out 0).trans rfl
          have x_1 := (blk_cell Q7.out 1).trans rfl
          have z0 := (blk_cell Z7.out 0).trans rfl
          have z1 := (blk_cell Z7.out 1).trans rfl
          have z2 := (blk_cell Z7.out 2).trans rfl
          have g0 := (blk_cell I7.out.hG 0).trans rfl
          have g1 := (blk_cell I7.out.hG 1).trans rfl
          obtain ⟨s0, s1, s2⟩ := I7.out.hO.cells HJL.out
          obtain ⟨vk, hvk⟩ : ∃ v, v = (hs[j]'HJL.out).v := ⟨_, rfl⟩
          rw [← hvk] at s2
          rw [add_at _ _ _ (by decide)] at s1 s2
          obtain ⟨aq, haq⟩ : ∃ a, ap.add (j * 3) = a := ⟨_, rfl⟩
          rw [haq] at s0 s1 s2
          have HVK := Aside0.mk hvk
          clear hvk
          have kp : j < pl := by rw [← HHL.out]; exact HJL.out
          have i1 : ((j : Int) < (pl : Int)) = True := eq_true (by omega)
          have i2 : (j < pl) = True := eq_true kp
          clear kp
          have e3 := HE3.out
          have e4 := HE4.out
          have HBL := Aside0.mk (show ∀ kk, vk.ownBlock = some kk → kk < _ from fun kk hk => (O4.out.pl_lt HJL.out (by rw [← HVK.out]; exact hk)).2.1)
          go_still_tail 16, (by kernel_rfl)
          change wpList _ _ _ _ _ w7.drew
          have I8 : Aside0 (RI w gR gf gp gT gr sp pl W H S (.slice (some av) n cv) ix (.slice (some ad) b.length cap) (.slice (some ap) pl cp) v7 hs X0 Y0 X1 Y1 pw ph at2 ss rd2 w7.drew) := ⟨I7.out.below (below_drew1 (Below.refl _ _))⟩
          have V8 := Aside0.mk (Kd.R_below V7.out (below_drew1 (Below.refl _ w7)))
          clear I7 Q7 Z7 V7 p1 x_0 x_1 z0 z1 z2 g0 g1 s0 s1 s2 i1 i2 haq e3 e4
          generalize w7.drew = wq8 at *
          have hnb : n ≤ 1048576 := HNL.out
          go_wp2_with (go_at_call 78; with_reducible refine (paste_picI HJL.out HVK.out HS2.out HPS.out HQS.out HPWB.out.1 HPWB.out.2.1 HPWB.out.2.2 HDB.out.1 HDB.out.2.1 HOFF.out.1 HOFF.out.2.1 HOFF.out.2.2.1 HOFF.out.2.2.2 V8.out HBL.out I8.out.hO I8.out.hB).mono ?_; rintro e w9' ⟨rfl, hO, hB, hk⟩; have I9 := Aside0.mk (I8.out.paste HJL.out hO hB hk); clear hO hB hk)
          have HF : Aside0 (RI w gR gf gp gT gr sp pl W H S (.slice (some av) n cv) ix (.slice (some ad) b.length cap) (.slice (some ap) pl cp) v7 hs X0 Y0 X1 Y1 pw ph (partPos b (k + 1)) (regLaid b X0 Y0 X1 Y1 (k + 1)) (regRead b X0 Y0 X1 Y1 (k + 1)) w9' ∧ regE b X0 Y0 X1 Y1 (n - (k + 1)) (k + 1) = regE b X0 Y0 X1 Y1 n 0) := ⟨by
           refine ⟨by rw [← HA2.out, ← HSS2.out, ← HRD2.out]; exact I9.out, ?_⟩
           have h := E1.out
           have hlt := HLT.out
           rw [show n - k = (n - (k + 1)) + 1 by omega] at h
           have h2 : regE b X0 Y0 X1 Y1 ((n - (k + 1)) + 1) k = regE b X0 Y0 X1 Y1 (n - (k + 1)) (k + 1) := by rw [regE, if_neg (fun hh => hh.2 HE0.out)]
           rw [← h2]
           exact h⟩
          have hlt := HLT.out
          go_roundw
          case measure => simp [intOf]; omega
          case rel => first | exact ⟨k + 1, by omega, by go_num, HF⟩ | ((repeat apply Exists.intro); exact ⟨⟨k + 1, by omega, by go_num, HF⟩, rfl⟩)
         ·have t1 : ((j : Int) == 0) = false := by rw [beq_eq_false_iff_ne]; omega
          have t2 : (j == 0) = false := by rw [beq_eq_false_iff_ne]; exact hj
          have HRD2 : Aside0 (rd = regRead b X0 Y0 X1 Y1 (k + 1)) := ⟨by rw [regRead, if_neg (fun hh => hj (by rw [HJ_.out, ← Q1.out]; exact hh.2)), HRD.out]⟩
          clear hj
          go_upto_region 30 with (fail)
          clear t1 t2
          have p1 := (blk_cell I6.out.hP 1).trans rfl
          have x_0 := (blk_cell Q6.out 0).trans rfl
          have x_1 := (blk_cell Q6.out 1).trans rfl
          have z0 := (blk_cell Z6.out 0).trans rfl
          have z1 := (blk_cell Z6.out 1).trans rfl
          have z2 := (blk_cell Z6.out 2).trans rfl
          have g0 := (blk_cell I6.out.hG 0).trans rfl
          have g1 := (blk_cell I6.out.hG 1).trans rfl
          obtain ⟨s0, s1, s2⟩ := I6.out.hO.cells HJL.out
          obtain ⟨vk, hvk⟩ : ∃ v, v = (hs[j]'HJL.out).v := ⟨_, rfl⟩
          rw [← hvk] at s2
          rw [add_at _ _ _ (by decide)] at s1 s2
          obtain ⟨aq, haq⟩ : ∃ a, ap.add (j * 3) = a := ⟨_, rfl⟩
          rw [haq] at s0 s1 s2
          have HVK := Aside0.mk hvk
          clear hvk
          have kp : j < pl := by rw [← HHL.out]; exact HJL.out
          have i1 : ((j : Int) < (pl : Int)) = True := eq_true (by omega)
          have i2 : (j < pl) = True := eq_true kp
          clear kp
          have e3 := HE3.out
          have e4 := HE4.out
          have HBL := Aside0.mk (show ∀ kk, vk.ownBlock = some kk → kk < _ from fun kk hk => (O4.out.pl_lt HJL.out (by rw [← HVK.out]; exact hk)).2.1)
          go_still_tail 16, (by kernel_rfl)
          change wpList _ _ _ _ _ wq.drew
          have I8 : Aside0 (RI w gR gf gp gT gr sp pl W H S (.slice (some av) n cv) ix (.slice (some ad) b.length cap) (.slice (some ap) pl cp) u14 hs X0 Y0 X1 Y1 pw ph at2 ss rd wq.drew) := ⟨I6.out.below (below_drew1 (Below.refl _ _))⟩
          have V8 := Aside0.mk (Kd.R_below V6.out (below_drew1 (Below.refl _ wq)))
          clear I6 Q6 Z6 V6 p1 x_0 x_1 z0 z1 z2 g0 g1 s0 s1 s2 i1 i2 haq e3 e4
          generalize wq.drew = wq8 at *
          have hnb : n ≤ 1048576 := HNL.out
          go_wp2_with (go_at_call 78; with_reducible refine (paste_picI HJL.out HVK.out HS2.out HPS.out HQS.out HPWB.out.1 HPWB.out.2.1 HPWB.out.2.2 HDB.out.1 HDB.out.2.1 HOFF.out.1 HOFF.out.2.1 HOFF.out.2.2.1 HOFF.out.2.2.2 V8.out HBL.out I8.out.hO I8.out.hB).mono ?_; rintro e w9' ⟨rfl, hO, hB, hk⟩; have I9 := Aside0.mk (I8.out.paste HJL.out hO hB hk); clear hO hB hk)
          have HF : Aside0 (RI w gR gf gp gT gr sp pl W H S (.slice (some av) n cv) ix (.slice (some ad) b.length cap) (.slice (some ap) pl cp) u14 hs X0 Y0 X1 Y1 pw ph (partPos b (k + 1)) (regLaid b X0 Y0 X1 Y1 (k + 1)) (regRead b X0 Y0 X1 Y1 (k + 1)) w9' ∧ regE b X0 Y0 X1 Y1 (n - (k + 1)) (k + 1) = regE b X0 Y0 X1 Y1 n 0) := ⟨by
           refine ⟨by rw [← HA2.out, ← HSS2.out, ← HRD2.out]; exact I9.out, ?_⟩
           have h := E1.out
           have hlt := HLT.out
           rw [show n - k = (n - (k + 1)) + 1 by omega] at h
           have h2 : regE b X0 Y0 X1 Y1 ((n - (k + 1)) + 1) k = regE b X0 Y0 X1 Y1 (n - (k + 1)) (k + 1) := by rw [regE, if_neg (fun hh => hh.2 HE0.out)]
           rw [← h2]
           exact h⟩
          have hlt := HLT.out
          go_roundw
          case measure => simp [intOf]; omega
          case rel => first | exact ⟨k + 1, by omega, by go_num, HF⟩ | ((repeat apply Exists.intro); exact ⟨⟨k + 1, by omega, by go_num, HF⟩, rfl⟩)
        ·have HE0 := Aside0.mk hE
         have HZ3 : Aside0 (z = partE b k) := ⟨by
          have h := E1.out
          have hlt := HLT.out
          have h2 : regE b X0 Y0 X1 Y1 ((n - (k + 1)) + 1) k = partE b k := by rw [regE, if_pos ⟨HV.out, HE0.out⟩]
          rw [show n - k = (n - (k + 1)) + 1 by omega, h2] at h
          rw [HZ2.out, ← h]⟩
         have hz0 : z ≠ 0 := by rw [HZ3.out]; exact hE
         have u1 : ((z : Int) != 0) = true := by rw [bne_iff_ne]; omega
         have u2 : (z != 0) = true := by rw [bne_iff_ne]; omega
         have HZ0 := Aside0.mk hz0
         have HAB : Aside0 (at1 ≤ b.length) := ⟨by have := L2.out; omega⟩
         clear hE hz0 t1 t2 t3 t4 m1 m2 m3 m4 g0 g1 g2 g3 f8 ff8 ea hb1 hb2
         go_upto_region 26 with (first | (go_at_call 77; with_reducible refine (part_badF HNK.out HIX2.out HA1.out HX0.out HY0.out HX1.out HY1.out HZ3.out GF.out HLT.out HC.out HCAP.out H8.out HL4.out HH.out HMY.out HAB.out HE0.out I4.out.hF I4.out.hT I4.out.hI I4.out.hB).mono ?_; rintro e w5 ⟨rfl, hg⟩; have R5 := Aside0.mk (blk_past I4.out.hR I4.out.hF (by decide) hg); have B5 := Aside0.mk (below_past I4.out.hB hg GF.out); clear hg yy0 yy1 yy2 yy3) | ((with_reducible refine gate_dst (N := 20) rfl ?_); refine box_event ?hg (N := 20) ?hd (cs := #[.int .i64 0, .int .i64 0, .slice none 0 0]) (t := 31) ?hr ?_; (case hd => rfl); (case hg => rfl); (case hr => first | (go_simp; done) | (go_simp; rfl)); intro gz hg_ w6 hm_ hb_; have X6 := Aside0.mk (put3 (x := .int .i64 0) (y := .int .i64 0) (z := .slice none 0 0) hm_ rfl); have HB6 := Aside0.mk ((show Below w5.heap.size w5 w6 from hb_).trans (X6.out.2.2 _ (by rw [hg_]; exact Nat.le_refl _))); have R6 := Aside0.mk (blk_below R5.out HB6.out); have B6 := Aside0.mk (below_step B5.out HB6.out); have Z5 := Aside0.mk hm_; have o0 := (blk_cell Z5.out 0).trans rfl; have o1 := (blk_cell Z5.out 1).trans rfl; have o2 := (blk_cell Z5.out 2).trans rfl; have fo0 := blk_frozen Z5.out 0; have fo1 := blk_frozen Z5.out 1; have fo2 := blk_frozen Z5.out 2; have r0 := (blk_cell R6.out 0).trans rfl; have r1 := (blk_cell R6.out 1).trans rfl; have fr0 := blk_frozen R6.out 0; have fr1 := blk_frozen R6.out 1; clear hm_ hb_ hg_ X6 HB6 Z5))
         generalize ((w6.setCell ⟨gz, 0, none⟩ (.int .i64 0)).setCell ⟨gz, 1, none⟩ (.int .i64 0)).setCell ⟨gz, 2, none⟩ (.slice none 0 0) = wq at *
         clear o0 o1 o2 fo0 fo1 fo2
         go_wp2
         obtain ⟨wz, hwz⟩ : ∃ wz, wz = (wq.setCell ⟨gR, 0, none⟩ (.int .i64 0)).setCell ⟨gR, 1, none⟩ (.slice none 0 0) := ⟨_, rfl⟩
         rw [← hwz]
         obtain ⟨hGz, hstz, hblz⟩ := put2 R6.out hwz
         refine bodyPost_ret (results_ctt rfl _ _ gR 47 #[.int .i64 0, .slice none 0 0] (0, 0) _ rfl hGz Try.underlying47 rfl (by kernel_rfl)) rfl ?_
         exact ⟨B6.out.trans (hblz _ GR.out), .inl ⟨HZ0.out, rfl⟩⟩
       ·have HV : Aside0 (ovl b X0 Y0 X1 Y1 k = false) := ⟨by
         rw [HOV.out]
         by_cases h1 : ma < mb
         ·rw [decide_eq_true h1, decide_eq_false (fun h => hv ⟨h1, h⟩)]; rfl
         ·rw [decide_eq_false h1]; rfl⟩
        have HF : Aside0 (RI w gR gf gp gT gr sp pl W H S (.slice (some av) n cv) ix (.slice (some ad) b.length cap) (.slice (some ap) pl cp) u14 hs X0 Y0 X1 Y1 pw ph (partPos b (k + 1)) (regLaid b X0 Y0 X1 Y1 (k + 1)) (regRead b X0 Y0 X1 Y1 (k + 1)) (wp.setCell ⟨gf, 8, none⟩ (.int .i64 (at2 : Int))) ∧ regE b X0 Y0 X1 Y1 (n - (k + 1)) (k + 1) = regE b X0 Y0 X1 Y1 n 0) := ⟨by
         refine ⟨?_, ?_⟩
         ·rw [← HA2.out, regLaid, if_neg (by rw [HV.out]; decide), regRead, if_neg (by rw [HV.out]; exact fun hh => absurd hh.1 (by decide)), ← HSS.out, ← HRD.out]
          exact I4.out.skip GF.out
         ·have h := E1.out
          have hlt := HLT.out
          rw [show n - k = (n - (k + 1)) + 1 by omega] at h
          have h2 : regE b X0 Y0 X1 Y1 ((n - (k + 1)) + 1) k = regE b X0 Y0 X1 Y1 (n - (k + 1)) (k + 1) := by rw [regE, if_neg (by rw [HV.out]; exact fun hh => absurd hh.1 (by decide))]
          rw [← h2]
          exact h⟩
        by_cases h1 : ma < mb
        ·have t1 : decide ((mb : Int) ≤ (ma : Int)) = false := decide_eq_false (by omega)
         have t2 : decide (mb ≤ ma) = false := decide_eq_false (by omega)
         have t3 : decide ((md : Int) ≤ (mc : Int)) = true := decide_eq_true (by omega)
         have t4 : decide (md ≤ mc) = true := decide_eq_true (by omega)
         clear hv h1
         go_upto_if 168 with (fail)
         clear I4 Q4
         have hnb : n ≤ 1048576 := HNL.out
         go_wp2
         have hlt := HLT.out
         go_roundw
         case measure => simp [intOf]; omega
         case rel => first | exact ⟨k + 1, by omega, by go_num, HF⟩ | ((repeat apply Exists.intro); exact ⟨⟨k + 1, by omega, by go_num, HF⟩, rfl⟩)
        ·have t1 : decide ((mb : Int) ≤ (ma : Int)) = true := decide_eq_true (by omega)
         have t2 : decide (mb ≤ ma) = true := decide_eq_true (by omega)
         clear hv h1
         go_upto_if 168 with (fail)
         clear I4 Q4
         have hnb : n ≤ 1048576 := HNL.out
         go_wp2
         have hlt := HLT.out
         go_roundw
         case measure => simp [intOf]; omega
         case rel => first | exact ⟨k + 1, by omega, by go_num, HF⟩ | ((repeat apply Exists.intro); exact ⟨⟨k + 1, by omega, by go_num, HF⟩, rfl⟩)
      ·obtain rfl : n = k := by omega
       have c1 : decide ((n : Int) < (n : Int)) = false := decide_eq_false (by omega)
       obtain ⟨ss, hss⟩ : ∃ r, r = regLaid b X0 Y0 X1 Y1 n := ⟨_, rfl⟩
       obtain ⟨rd, hrd⟩ : ∃ r, r = regRead b X0 Y0 X1 Y1 n := ⟨_, rfl⟩
       obtain ⟨at1, hat1⟩ : ∃ r, r = partPos b n := ⟨_, rfl⟩
       rw [← hat1, ← hss, ← hrd] at HI
       have HSS : Aside0 (regLaid b X0 Y0 X1 Y1 (hK b) = ss) := ⟨by rw [hss, HNK.out]⟩
       have HRD : Aside0 (regRead b X0 Y0 X1 Y1 (hK b) = rd) := ⟨by rw [hrd, HNK.out]⟩
       have D1 := Aside0.mk HI.out.1
       have HZ3 : Aside0 (z = 0) := ⟨by
        have h := HI.out.2
        rw [Nat.sub_self] at h
        rw [HZ2.out, ← h]; rfl⟩
       clear hss hrd hat1 HI hlt
       have R1 := Aside0.mk D1.out.hR
       have o0 := (blk_cell R1.out 0).trans rfl
       have o1 := (blk_cell R1.out 1).trans rfl
       have fo0 := blk_frozen R1.out 0
       have fo1 := blk_frozen R1.out 1
       have q_0 := (blk_cell D1.out.hP 0).trans rfl
       have q_1 := (blk_cell D1.out.hP 1).trans rfl
       go_wp2
       obtain ⟨wz, hwz⟩ : ∃ wz, wz = (wr.setCell ⟨gR, 0, none⟩ (.int .i64 (sp : Int))).setCell ⟨gR, 1, none⟩ (.slice (some ap) pl cp) := ⟨_, rfl⟩
       rw [← hwz]
       obtain ⟨hGz, hstz, hblz⟩ := put2 R1.out hwz
       refine bodyPost_ret (results_ctt rfl _ _ gR 47 #[.int .i64 (sp : Int), .slice (some ap) pl cp] (0, 0) _ rfl hGz Try.underlying47 rfl (by kernel_rfl)) rfl ?_
       refine ⟨D1.out.hB.trans (hblz _ GR.out), .inr ⟨HZ3.out, _, u14, rfl, hs, ?_, ?_⟩⟩
       ·rw [HSS.out]; exact D1.out.hO.keep hstz (D1.out.hO.ne_row R1.out (by decide)) (D1.out.hO.ne_pl R1.out (by decide))
       ·rw [HRD.out]; exact ints_stay D1.out.hV (fun k cs _ hc => hstz k (blk_ne hc R1.out (by decide)))
end Go.Proofs.Ytbbebhdcfopmmaa.A
end
section
set_option linter.unusedVariables false
set_option linter.unusedSimpArgs false
namespace Go.Proofs.Ytbbebhdcfopmmaa.A
open Go.RowKit Go.Proofs.YtbbebhdcfopmmaaW.PrintWords Go.Proofs.YtbbebhdcfopmmaaW.PrintLast Go.Proofs.YtbbebhdcfopmmaaW.PrintMore Go.Proofs.Ytbbebhdcfopmmaa.PCodecNames

/-- Region of any bytes -/
def RegionP (b : List Nat) (X0 Y0 X1 Y1 : Int) (w : World) (e : Ending) (w1 : World) : Prop := Below w.heap.size w w1 ∧
 ((regionE b X0 Y0 X1 Y1 ≠ 0 ∧ e = .returned (.tuple #[.agg #[.int .i64 0, .slice none 0 0], .slice none 0 0, .int .i64 (regionE b X0 Y0 X1 Y1 : Int)])) ∨
  (regionE b X0 Y0 X1 Y1 = 0 ∧ ∃ vp vr, e = .returned (.tuple #[.agg #[.int .i64 (hSp b : Int), vp], vr, .int .i64 0]) ∧ ∃ hs, PicOwn w.heap.size w1 vp (X1.toNat - X0.toNat) (Y1.toNat - Y0.toNat) hs (regLaid b X0.toNat Y0.toNat X1.toNat Y1.toNat (hK b)) ∧ (nat .i64).R 3 w1 w.heap.size (fun k => vr.ownBlock = some k) vr (regRead b X0.toNat Y0.toNat X1.toNat Y1.toNat (hK b))))
theorem Region_any (A : Option Addr) (cap : Nat) (b : List Nat) (X0 Y0 X1 Y1 : Int) (w : World) (hC : (nat .u8).C w A b.length b) (hcap : b.length ≤ cap) (h8 : ∀ i, gt b i < 256) (hl : b.length < 4611686018427387904) :
    Calls Try.prog 40 #[.slice A b.length cap, .agg #[.int .i64 X0, .int .i64 Y0, .int .i64 X1, .int .i64 Y1]] w (RegionP b X0 Y0 X1 Y1 w) := by
 by_cases he : openE b = 0
 ·obtain ⟨z1, z2, _⟩ := open_zero he
  obtain ⟨ad, c, rfl, _⟩ := Kd.C_get hC 0 0 (by decide) (by omega)
  by_cases hw : withinB b X0 Y0 X1 Y1 = true
  ·have hw2 := hw
   unfold withinB at hw2
   simp only [Bool.and_eq_true, decide_eq_true_eq] at hw2
   obtain ⟨⟨⟨⟨⟨a1, a2⟩, a3⟩, a4⟩, a5⟩, a6⟩ := hw2
   have h := Region_main (hSp b) (hPl b) (hW b) (hH b) (hS b) ad cap b X0.toNat Y0.toNat X1.toNat Y1.toNat (X1.toNat - X0.toNat) (Y1.toNat - Y0.toNat) w hC hcap h8 he rfl rfl rfl rfl rfl (by omega) (by omega) (by omega) (by omega) rfl rfl
   rw [Int.toNat_of_nonneg a1, Int.toNat_of_nonneg (by omega : 0 ≤ X1), Int.toNat_of_nonneg a4, Int.toNat_of_nonneg (by omega : 0 ≤ Y1)] at h
   refine h.mono ?_
   have hE : regionE b X0 Y0 X1 Y1 = (if b.length < partPos b (hK b) then 182 else if partPos b (hK b) < b.length then 181 else regE b X0.toNat Y0.toNat X1.toNat Y1.toNat (hK b) 0) := by
    unfold regionE
    rw [if_neg (by rw [he]; decide), if_neg (by rw [hw]; decide)]
   rw [← hE]
   exact fun _ _ h => h
  ·have hw0 : withinB b X0 Y0 X1 Y1 = false := by rcases h : withinB b X0 Y0 X1 Y1 with _ | _ <;> simp_all
   have hr : X0 < 0 ∨ X1 ≤ X0 ∨ (hW b : Int) < X1 ∨ Y0 < 0 ∨ Y1 ≤ Y0 ∨ (hH b : Int) < Y1 := by
    unfold withinB at hw
    simp only [Bool.and_eq_true, decide_eq_true_eq] at hw
    omega
   refine (Region_rect (hSp b) (hPl b) (hW b) (hH b) (hS b) ad cap b X0 Y0 X1 Y1 w hC hcap h8 he rfl rfl rfl rfl rfl hr).mono ?_
   rintro e w1 ⟨rfl, hb⟩
   have hE : regionE b X0 Y0 X1 Y1 = 52 := by
    unfold regionE
    rw [if_neg (by rw [he]; decide), if_pos hw0]
   exact ⟨hb, .inl ⟨by rw [hE]; decide, by rw [hE]; rfl⟩⟩
 ·refine (Region_bad A cap b X0 Y0 X1 Y1 w hC hcap h8 hl he).mono ?_
  rintro e w1 ⟨rfl, hb⟩
  have h1 : regionE b X0 Y0 X1 Y1 = openE b := by unfold regionE; rw [if_pos he]
  exact ⟨hb, .inl ⟨by rw [h1]; exact he, by rw [h1]⟩⟩

def kP : Pic := ⟨0, 1, 1, [[0]]⟩
def kB : List Nat := [72, 76, 68, 49, 0, 1, 0, 1, 0, 1, 0, 1, 0, 0, 0, 1, 134, 199, 101, 40, 0, 210, 2, 239, 141]
theorem kB_enc : encN kP 1 = kB := by decide +kernel
theorem kB_dec : decodeE kB = 0 ∧ hSp kB = 0 ∧ hPl kB = 1 ∧ hW kB = 1 ∧ hH kB = 1 ∧ hS kB = 1 ∧ laid kB (hK kB) = [[0]] ∧ openE kB = 0 := by decide +kernel
theorem kB_reg : regionE kB 0 0 1 1 = 0 ∧ regLaid kB 0 0 1 1 (hK kB) = [[0]] ∧ regRead kB 0 0 1 1 (hK kB) = [0] := by decide +kernel
theorem kB_24 : decodeE (kB.take 24) = 182 ∧ decodeE (kB.take 11) = 182 := by decide +kernel
theorem crc_nine : crc [49, 50, 51, 52, 53, 54, 55, 56, 57] = 3421780262 := by decide +kernel
theorem k_rests : restsN [5, 3] 2 = [5, 4294967294] ∧ planeN [5, 4294967294] 2 = [5, 3] := by decide +kernel
end Go.Proofs.Ytbbebhdcfopmmaa.A
end
section
set_option linter.unusedVariables false
set_option linter.unusedSimpArgs false
namespace Go.Proofs.Ytbbebhdcfopmmaa.A
open Go.RowKit Go.Proofs.YtbbebhdcfopmmaaW.PrintWords Go.Proofs.YtbbebhdcfopmmaaW.PrintLast Go.Proofs.YtbbebhdcfopmmaaW.PrintMore Go.Proofs.Ytbbebhdcfopmmaa.PCodecNames

theorem rd_ext {a b : List Int} (hl : a.length = b.length) (h : ∀ j : Nat, j < a.length → rd a (j : Int) = rd b (j : Int)) : a = b := by
 refine List.ext_getElem hl (fun j h1 h2 => ?_)
 have := h j h1
 unfold rd at this
 rw [Int.toNat_natCast, List.getD_eq_getElem?_getD, List.getD_eq_getElem?_getD, List.getElem?_eq_getElem h1, List.getElem?_eq_getElem h2] at this
 exact this

theorem same_l {a b : List Int} (hl : a.length = b.length) (hm : a.length < 4611686018427387904) : ∀ (d i k : Nat), i + d = a.length → d < k → (∀ j : Nat, j < i → rd a (j : Int) = rd b (j : Int)) → halidelaw18_sameBytes.l0 k a b (i : Int) = some (decide (a = b)) := by
 intro d
 induction d with
 | zero =>
  intro i k hi hk he
  obtain ⟨k, rfl⟩ : ∃ m, k = m + 1 := ⟨k - 1, by omega⟩
  unfold halidelaw18_sameBytes.l0
  rw [if_neg (by omega), rd_ext hl (fun j hj => he j (by omega))]
  simp
 | succ d ih =>
  intro i k hi hk he
  obtain ⟨k, rfl⟩ : ∃ m, k = m + 1 := ⟨k - 1, by omega⟩
  unfold halidelaw18_sameBytes.l0
  rw [if_pos (by omega), if_pos (by omega), if_pos (by omega)]
  by_cases h : rd a (i : Int) = rd b (i : Int)
  ·rw [if_pos h, w64 (n := (i : Int) + 1) (by omega) (by omega)]
   exact ih (i + 1) k (by omega) (by omega) (fun j hj => by
    by_cases hj2 : j < i
    ·exact he j hj2
    ·obtain rfl : j = i := by omega
     exact h)
  ·rw [if_neg h]
   have : a ≠ b := fun e => h (by rw [e])
   simp [this]
theorem same_f {a b : List Int} (k : Nat) (hk : a.length < k) (hm : a.length < 4611686018427387904) : halidelaw18_sameBytes.f k a b = some (decide (a = b)) := by
 unfold halidelaw18_sameBytes.f
 by_cases h : a.length = b.length
 ·rw [if_pos (by omega)]
  exact same_l h hm a.length 0 k (by omega) hk (fun j hj => absurd hj (Nat.not_lt_zero _))
 ·rw [if_neg (by omega)]
  have : a ≠ b := fun e => h (by rw [e])
  simp [this]

theorem same_nat (A B : Option Addr) (c d : Nat) (a b : List Nat) (w : World) (hA : (nat .u8).C w A a.length a) (hB : (nat .u8).C w B b.length b) (hc : a.length ≤ c) (hd : b.length ≤ d) (hl : a.length < 4611686018427387904) :
    Calls Try.prog 18 #[.slice A a.length c, .slice B b.length d] w fun e w' => e = .returned (.bool (decide (a = b))) ∧ Drawn0 w w' := by
 have h := halidelaw18_sameBytes.calls (a.length + 1) A c (ints a) B d (ints b) (decide (a = b)) w (by rw [ints_length]; exact C_ints hA) (by rw [ints_length]; exact hc) (by rw [ints_length]; exact C_ints hB) (by rw [ints_length]; exact hd) (by
  rw [same_f _ (by rw [ints_length]; omega) (by rw [ints_length]; exact hl)]
  congr 1
  by_cases h : a = b
  ·rw [h]; simp
  ·have h2 : ints a ≠ ints b := fun e => h (ints_inj e)
   simp [h, h2])
 rw [ints_length, ints_length] at h
 exact h

theorem words_l {a b : List Int} (hl : a.length = b.length) (hm : a.length < 4611686018427387904) : ∀ (d i k : Nat), i + d = a.length → d < k → (∀ j : Nat, j < i → rd a (j : Int) = rd b (j : Int)) → halidehelp_Words.l0 k a b (i : Int) = some (decide (a = b)) := by
 intro d
 induction d with
 | zero =>
  intro i k hi hk he
  obtain ⟨k, rfl⟩ : ∃ m, k = m + 1 := ⟨k - 1, by omega⟩
  unfold halidehelp_Words.l0
  rw [if_neg (by omega), rd_ext hl (fun j hj => he j (by omega))]
  simp
 | succ d ih =>
  intro i k hi hk he
  obtain ⟨k, rfl⟩ : ∃ m, k = m + 1 := ⟨k - 1, by omega⟩
  unfold halidehelp_Words.l0
  rw [if_pos (by omega), if_pos (by omega), if_pos (by omega)]
  by_cases h : rd a (i : Int) = rd b (i : Int)
  ·rw [if_pos h, w64 (n := (i : Int) + 1) (by omega) (by omega)]
   exact ih (i + 1) k (by omega) (by omega) (fun j hj => by
    by_cases hj2 : j < i
    ·exact he j hj2
    ·obtain rfl : j = i := by omega
     exact h)
  ·rw [if_neg h]
   have : a ≠ b := fun e => h (by rw [e])
   simp [this]
theorem words_f {a b : List Int} (k : Nat) (hk : a.length < k) (hm : a.length < 4611686018427387904) : halidehelp_Words.f k a b = some (decide (a = b)) := by
 unfold halidehelp_Words.f
 by_cases h : a.length = b.length
 ·rw [if_pos (by omega)]
  exact words_l h hm a.length 0 k (by omega) hk (fun j hj => absurd hj (Nat.not_lt_zero _))
 ·rw [if_neg (by omega)]
  have : a ≠ b := fun e => h (by rw [e])
  simp [this]

theorem words_nat (A B : Option Addr) (c d : Nat) (a b : List Nat) (w : World) (hA : (nat .u32).C w A a.length a) (hB : (nat .u32).C w B b.length b) (hc : a.length ≤ c) (hd : b.length ≤ d) (hl : a.length < 4611686018427387904) :
    Calls Try.prog 26 #[.slice A a.length c, .slice B b.length d] w fun e w' => e = .returned (.bool (decide (a = b))) ∧ Drawn0 w w' := by
 have h := halidehelp_Words.calls (a.length + 1) A c (ints a) B d (ints b) (decide (a = b)) w (by rw [ints_length]; exact C_ints hA) (by rw [ints_length]; exact hc) (by rw [ints_length]; exact C_ints hB) (by rw [ints_length]; exact hd) (by
  rw [words_f _ (by rw [ints_length]; omega) (by rw [ints_length]; exact hl)]
  congr 1
  by_cases h : a = b
  ·rw [h]; simp
  ·have h2 : ints a ≠ ints b := fun e => h (ints_inj e)
   simp [h, h2])
 rw [ints_length, ints_length] at h
 exact h

theorem intsq_l {a b : List Int} (hl : a.length = b.length) (hm : a.length < 4611686018427387904) : ∀ (d i k : Nat), i + d = a.length → d < k → (∀ j : Nat, j < i → rd a (j : Int) = rd b (j : Int)) → halidehelp_Ints.l0 k a b (i : Int) = some (decide (a = b)) := by
 intro d
 induction d with
 | zero =>
  intro i k hi hk he
  obtain ⟨k, rfl⟩ : ∃ m, k = m + 1 := ⟨k - 1, by omega⟩
  unfold halidehelp_Ints.l0
  rw [if_neg (by omega), rd_ext hl (fun j hj => he j (by omega))]
  simp
 | succ d ih =>
  intro i k hi hk he
  obtain ⟨k, rfl⟩ : ∃ m, k = m + 1 := ⟨k - 1, by omega⟩
  unfold halidehelp_Ints.l0
  rw [if_pos (by omega), if_pos (by omega), if_pos (by omega)]
  by_cases h : rd a (i : Int) = rd b (i : Int)
  ·rw [if_pos h, w64 (n := (i : Int) + 1) (by omega) (by omega)]
   exact ih (i + 1) k (by omega) (by omega) (fun j hj => by
    by_cases hj2 : j < i
    ·exact he j hj2
    ·obtain rfl : j = i := by omega
     exact h)
  ·rw [if_neg h]
   have : a ≠ b := fun e => h (by rw [e])
   simp [this]
theorem intsq_f {a b : List Int} (k : Nat) (hk : a.length < k) (hm : a.length < 4611686018427387904) : halidehelp_Ints.f k a b = some (decide (a = b)) := by
 unfold halidehelp_Ints.f
 by_cases h : a.length = b.length
 ·rw [if_pos (by omega)]
  exact intsq_l h hm a.length 0 k (by omega) hk (fun j hj => absurd hj (Nat.not_lt_zero _))
 ·rw [if_neg (by omega)]
  have : a ≠ b := fun e => h (by rw [e])
  simp [this]

theorem intsq_nat (A B : Option Addr) (c d : Nat) (a b : List Nat) (w : World) (hA : (nat .i64).C w A a.length a) (hB : (nat .i64).C w B b.length b) (hc : a.length ≤ c) (hd : b.length ≤ d) (hl : a.length < 4611686018427387904) :
    Calls Try.prog 41 #[.slice A a.length c, .slice B b.length d] w fun e w' => e = .returned (.bool (decide (a = b))) ∧ Drawn0 w w' := by
 have h := halidehelp_Ints.calls (a.length + 1) A c (ints a) B d (ints b) (decide (a = b)) w (by rw [ints_length]; exact C_ints hA) (by rw [ints_length]; exact hc) (by rw [ints_length]; exact C_ints hB) (by rw [ints_length]; exact hd) (by
  rw [intsq_f _ (by rw [ints_length]; omega) (by rw [ints_length]; exact hl)]
  congr 1
  by_cases h : a = b
  ·rw [h]; simp
  ·have h2 : ints a ≠ ints b := fun e => h (ints_inj e)
   simp [h, h2])
 rw [ints_length, ints_length] at h
 exact h

theorem plane_f {x y u v : Int} {a b : List Int} (k : Nat) (hk : a.length < k) (hm : a.length < 4611686018427387904) : halidehelp_Plane.f k x y a u v b = some (decide (x = u ∧ y = v ∧ a = b)) := by
 unfold halidehelp_Plane.f
 rw [words_f k hk hm]
 by_cases h1 : x = u
 ·rw [if_pos h1]
  by_cases h2 : y = v
  ·rw [if_pos h2]; simp [h1, h2]
  ·rw [if_neg h2]; simp [h2]
 ·rw [if_neg h1]; simp [h1]
theorem plane_nat (A B : Option Addr) (c d : Nat) (x y u v : Nat) (a b : List Nat) (w : World) (hA : (nat .u32).C w A a.length a) (hB : (nat .u32).C w B b.length b) (hc : a.length ≤ c) (hd : b.length ≤ d) (hl : a.length < 4611686018427387904) :
    Calls Try.prog 27 #[.agg #[.int .i64 (x : Int), .int .i64 (y : Int), .slice A a.length c], .agg #[.int .i64 (u : Int), .int .i64 (v : Int), .slice B b.length d]] w fun e w' => e = .returned (.bool (decide (x = u ∧ y = v ∧ a = b))) ∧ Below w.heap.size w w' := by
 have h := halidehelp_Plane.calls (a.length + 1) (x : Int) (y : Int) A c (ints a) (u : Int) (v : Int) B d (ints b) (decide (x = u ∧ y = v ∧ a = b)) w (by rw [ints_length]; exact C_ints hA) (by rw [ints_length]; exact hc) (by rw [ints_length]; exact C_ints hB) (by rw [ints_length]; exact hd) (by
  rw [plane_f _ (by rw [ints_length]; omega) (by rw [ints_length]; exact hl)]
  congr 1
  rw [decide_eq_decide]
  constructor
  ·rintro ⟨h1, h2, h3⟩; exact ⟨by omega, by omega, ints_inj h3⟩
  ·rintro ⟨rfl, rfl, rfl⟩; exact ⟨rfl, rfl, rfl⟩)
 rw [ints_length, ints_length] at h
 exact h
theorem Drawn0.to_below {w w' : World} (h : Drawn0 w w') : Below w.heap.size w w' := by
 obtain ⟨n, rfl⟩ := h
 exact pw_below_drewN (Below.refl _ _) n
end Go.Proofs.Ytbbebhdcfopmmaa.A
end
section
set_option linter.unusedVariables false
set_option linter.unusedSimpArgs false
namespace Go.Proofs.Ytbbebhdcfopmmaa.A
open Go.RowKit Go.Proofs.YtbbebhdcfopmmaaW.PrintWords Go.Proofs.YtbbebhdcfopmmaaW.PrintLast Go.Proofs.YtbbebhdcfopmmaaW.PrintMore Go.Proofs.Ytbbebhdcfopmmaa.PCodecNames

theorem kP_ok : kP.ok := by
 refine ⟨by decide, by decide, by decide, .inl rfl, fun k hk => ?_⟩
 obtain rfl : k = 0 := by have : kP.ss.length = 1 := rfl; omega
 exact ⟨by decide, by decide, by decide, by decide, by decide, rfl, gt_lt_all (by decide) (by decide)⟩
theorem kP_C {w : World} {g1 g2 : Nat} (h1 : w.heap[g1]? = some (.cells #[.int .u32 0] 24 (0, 0))) (h2 : w.heap[g2]? = some (.cells #[.int .i64 1, .int .i64 1, .slice (some ⟨g1, 0, none⟩) 1 1] 31 (0, 0))) : Kd.C k31 w (some ⟨g2, 0, none⟩) 1 [⟨1, 1, [0]⟩] := by
 refine ⟨rfl, by decide, fun _ => ⟨_, rfl, fun j p hj => ?_⟩⟩
 match j, hj with
 | 0, hj =>
  injection hj with hj
  subst hj
  have hC : (Kd.int .u32).C w (some ⟨g1, 0, none⟩) 1 [0] := C_ints (xs := [0]) (C_new [0] h1 rfl (by decide))
  refine ⟨[.int .i64 1, .int .i64 1, .slice (some ⟨g1, 0, none⟩) 1 1], rfl, k31_mk w ⟨1, 1, [0]⟩ (by decide) hC, fun i u hu => ?_⟩
  rw [add_plain, blk_cell h2]
  match i, hu with
  | 0, hu => simpa using hu
  | 1, hu => simpa using hu
  | 2, hu => simpa using hu
 | j + 1, hj => simp at hj
theorem kB_8 : ∀ i, gt kB i < 256 := gt_lt_all (by decide) (by decide)
theorem Enc_k (w : World) {g1 g2 : Nat} (h1 : w.heap[g1]? = some (.cells #[.int .u32 0] 24 (0, 0))) (h2 : w.heap[g2]? = some (.cells #[.int .i64 1, .int .i64 1, .slice (some ⟨g1, 0, none⟩) 1 1] 31 (0, 0))) :
    Calls Try.prog 31 #[.agg #[.int .i64 0, .slice (some ⟨g2, 0, none⟩) 1 1], .int .i64 1] w fun e w' => ∃ ad c, e = .returned (.tuple #[.slice (some ad) 25 c, .int .i64 0]) ∧ 25 ≤ c ∧ (nat .u8).R 5 w' w.heap.size (fun _ => True) (.slice (some ad) 25 c) kB ∧ Below w.heap.size w w' := by
 refine (Encode_calls2 kP 1 1 [⟨1, 1, [0]⟩] (some ⟨g2, 0, none⟩) w rfl kP_ok (by decide) (by decide) (kP_C h1 h2) (by decide)).mono ?_
 rintro e w' ⟨v, rfl, hO, hb⟩
 rw [kB_enc] at hO
 obtain ⟨ad, c, rfl⟩ := Kd.R_slice1 hO (by decide)
 exact ⟨ad, c, rfl, (Kd.R_reads' hO).2.1, Kd.R_mono hO (fun _ _ => trivial), hb⟩
theorem size_alloc1 (w : World) (o : Obj) : (w.alloc o).heap.size = w.heap.size + 1 := by simp
theorem blk_new1 (w : World) (o1 o2 : Obj) : ((w.alloc o1).alloc o2).heap[w.heap.size + 1]? = some o2 := by
 have h := blk_new (w.alloc o1) o2
 rw [size_alloc1] at h
 exact h
theorem blk_old1 (w : World) (o1 o2 : Obj) : ((w.alloc o1).alloc o2).heap[w.heap.size]? = some o1 := blk_below (blk_new w o1) ((Below.refl _ _).alloc (Nat.le_refl _) _)
theorem below1 (w : World) (o : Obj) : Below w.heap.size w (w.alloc o) := (Below.refl _ _).alloc (Nat.le_refl _) _
theorem below2 (w : World) (o1 o2 : Obj) : Below w.heap.size w ((w.alloc o1).alloc o2) := below_step (below1 w o1) (below1 _ o2)
/-- the example's bytes -/
def KB (w : World) (ad : Addr) (c : Nat) : Prop := 25 ≤ c ∧ (nat .u8).C w (some ad) 25 kB
theorem KB.below {w w' : World} {ad : Addr} {c : Nat} (h : KB w ad c) (hb : Below w.heap.size w w') : KB w' ad c := ⟨h.1, Kd.C_below h.2 hb⟩
theorem Enc_k2 (w : World) :
    Calls Try.prog 31 #[.agg #[.int .i64 0, .slice (some ⟨w.heap.size + 1, 0, none⟩) 1 1], .int .i64 1] ((w.alloc (.cells #[.int .u32 0] 24 (0, 0))).alloc (.cells #[.int .i64 1, .int .i64 1, .slice (some ⟨w.heap.size, 0, none⟩) 1 1] 31 (0, 0))) fun e w' => ∃ ad c, e = .returned (.tuple #[.slice (some ad) 25 c, .int .i64 0]) ∧ 25 ≤ c ∧ KB w' ad c ∧ Below w.heap.size w w' := by
 refine (Enc_k _ (blk_old1 w _ _) (blk_new1 w _ _)).mono ?_
 rintro e w' ⟨ad, c, rfl, hc, hR, hb⟩
 exact ⟨ad, c, rfl, hc, ⟨hc, (Kd.R_reads' hR).2.2⟩, below_step (below2 w _ _) hb⟩
theorem same16 (w : World) {ad : Addr} {c g : Nat} (h : KB w ad c) (hg : w.heap[g]? = some (.cells #[.int .u8 72, .int .u8 76, .int .u8 68, .int .u8 49, .int .u8 0, .int .u8 1, .int .u8 0, .int .u8 1, .int .u8 0, .int .u8 1, .int .u8 0, .int .u8 1, .int .u8 0, .int .u8 0, .int .u8 0, .int .u8 1] 5 (0, 0))) :
    Calls Try.prog 18 #[.slice (some ad) 16 c, .slice (some ⟨g, 0, none⟩) 16 16] w fun e w' => e = .returned (.bool true) ∧ Below w.heap.size w w' := by
 have h1 := C_sub (i := 0) (n := 16) h.2 (by decide)
 refine (same_nat (some ad) (some ⟨g, 0, none⟩) c 16 [72, 76, 68, 49, 0, 1, 0, 1, 0, 1, 0, 1, 0, 0, 0, 1] [72, 76, 68, 49, 0, 1, 0, 1, 0, 1, 0, 1, 0, 0, 0, 1] w h1 (C_new _ hg rfl (by decide)) (by have := h.1; simp; omega) (by decide) (by decide)).mono ?_
 rintro e w' ⟨rfl, hd⟩
 exact ⟨by rw [decide_eq_true rfl], Drawn0.to_below hd⟩
theorem same5 (w : World) {ad : Addr} {c g : Nat} (h : KB w ad c) (hg : w.heap[g]? = some (.cells #[.int .u8 0, .int .u8 210, .int .u8 2, .int .u8 239, .int .u8 141] 5 (0, 0))) :
    Calls Try.prog 18 #[.slice (some ⟨ad.block, ad.off + 20, none⟩) 5 (c - 20), .slice (some ⟨g, 0, none⟩) 5 5] w fun e w' => e = .returned (.bool true) ∧ Below w.heap.size w w' := by
 have h1 := C_sub (i := 20) (n := 5) h.2 (by decide)
 refine (same_nat (some (ad.add 20)) (some ⟨g, 0, none⟩) (c - 20) 5 [0, 210, 2, 239, 141] [0, 210, 2, 239, 141] w h1 (C_new _ hg rfl (by decide)) (by have := h.1; simp; omega) (by decide) (by decide)).mono ?_
 rintro e w' ⟨rfl, hd⟩
 exact ⟨by rw [decide_eq_true rfl], Drawn0.to_below hd⟩
/-- the example's picture -/
structure KP (w : World) (ap az : Addr) (cz : Nat) : Prop where
 a0 : w.cell? ap = some (.int .i64 1)
 a1 : w.cell? ⟨ap.block, ap.off + 1, none⟩ = some (.int .i64 1)
 a2 : w.cell? ⟨ap.block, ap.off + 2, none⟩ = some (.slice (some az) 1 cz)
 z : (nat .u32).C w (some az) 1 [0]
 cz1 : 1 ≤ cz
theorem cell_on {w w' : World} {a : Addr} {v : Value} (hb : Below w.heap.size w w') (h : w.cell? a = some v) : w'.cell? a = some v := (hb.cell (World.block_lt_of_cell? _ _ h)).trans h
theorem KP.below {w w' : World} {ap az : Addr} {cz : Nat} (h : KP w ap az cz) (hb : Below w.heap.size w w') : KP w' ap az cz := ⟨cell_on hb h.a0, cell_on hb h.a1, cell_on hb h.a2, Kd.C_below h.z hb, h.cz1⟩
theorem KP.of {w : World} {B : Nat} {vp : Value} {hs : List Hd} (H : PicOwn B w vp 1 1 hs [[0]]) : ∃ ap cp az cz, vp = .slice (some ap) 1 cp ∧ KP w ap az cz := by
 have hl : hs.length = 1 := H.len
 obtain ⟨ap, cp, rfl⟩ := Kd.R_slice1 H.row (by rw [List.length_map, hl]; decide)
 rw [List.length_map, hl] at H ⊢
 obtain ⟨s0, s1, s2⟩ := H.cells (k := 0) (by omega)
 have hR := H.pls 0 (by omega)
 obtain ⟨az, cz, hz⟩ := Kd.R_slice1 hR (by decide)
 have hR' := hR
 rw [hz] at s2 hR'
 have h4 := Kd.R_reads' hR'
 rw [add_at _ _ _ (by decide)] at s1 s2
 have e : ap.add (0 * 3) = ap := rfl
 rw [e] at s0 s1 s2
 exact ⟨ap, cp, az, cz, rfl, s0, s1, s2, h4.2.2, h4.2.1⟩
theorem Dec_k (w : World) {ad : Addr} {c : Nat} (h : KB w ad c) :
    Calls Try.prog 36 #[.slice (some ad) 25 c] w fun e w' => ∃ ap cp az cz, e = .returned (.tuple #[.agg #[.int .i64 0, .slice (some ap) 1 cp], .int .i64 0]) ∧ KP w' ap az cz ∧ Below w.heap.size w w' := by
 refine (Decode_any (some ad) c kB w h.2 h.1 kB_8 (by decide)).mono ?_
 rintro e w' ⟨hb, h1⟩
 obtain ⟨k1, k2, k3, k4, k5, k6, k7, k8⟩ := kB_dec
 rcases h1 with ⟨h2, _⟩ | ⟨_, vp, rfl, hs, hP⟩
 ·exact absurd k1 h2
 ·rw [k4, k5, k7] at hP
  obtain ⟨ap, cp, az, cz, rfl, hK⟩ := KP.of hP
  rw [k2]
  exact ⟨ap, cp, az, cz, rfl, hK, hb⟩
theorem Read_k (w : World) {ad : Addr} {c : Nat} (h : KB w ad c) :
    Calls Try.prog 37 #[.slice (some ad) 25 c] w fun e w' => e = .returned (.tuple #[.agg #[.int .i64 0, .int .i64 1, .int .i64 1, .int .i64 1, .int .i64 1], .int .i64 0]) ∧ Below w.heap.size w w' := by
 obtain ⟨k1, k2, k3, k4, k5, k6, k7, k8⟩ := kB_dec
 exact (Read_ok 0 1 1 1 1 (some ad) c kB w h.2 h.1 kB_8 (by decide) k8 k2 k3 k4 k5 k6).mono fun _ _ h => h
theorem Reg_k (w : World) {ad : Addr} {c : Nat} (h : KB w ad c) :
    Calls Try.prog 40 #[.slice (some ad) 25 c, .agg #[.int .i64 0, .int .i64 0, .int .i64 1, .int .i64 1]] w fun e w' => ∃ ap cp az cz ar cr, e = .returned (.tuple #[.agg #[.int .i64 0, .slice (some ap) 1 cp], .slice (some ar) 1 cr, .int .i64 0]) ∧ KP w' ap az cz ∧ (nat .i64).C w' (some ar) 1 [0] ∧ 1 ≤ cr ∧ Below w.heap.size w w' := by
 refine (Region_any (some ad) c kB 0 0 1 1 w h.2 h.1 kB_8 (by decide)).mono ?_
 rintro e w' ⟨hb, h1⟩
 obtain ⟨k1, k2, k3⟩ := kB_reg
 obtain ⟨_, q2, _⟩ := kB_dec
 rcases h1 with ⟨h2, _⟩ | ⟨_, vp, vr, rfl, hs, hP, hV⟩
 ·exact absurd k1 h2
 ·rw [q2]
  have hP' : PicOwn w.heap.size w' vp 1 1 hs (regLaid kB 0 0 1 1 (hK kB)) := hP
  have hV' : (nat .i64).R 3 w' w.heap.size (fun k => vr.ownBlock = some k) vr (regRead kB 0 0 1 1 (hK kB)) := hV
  rw [k2] at hP'
  rw [k3] at hV'
  obtain ⟨ap, cp, az, cz, rfl, hK⟩ := KP.of hP'
  obtain ⟨ar, cr, rfl⟩ := Kd.R_slice1 hV' (by decide)
  have h4 := Kd.R_reads' hV'
  exact ⟨ap, cp, az, cz, ar, cr, rfl, hK, h4.2.2, h4.2.1, hb⟩
theorem Dec_n (w : World) {ad : Addr} {c n : Nat} (h : KB w ad c) (hn : n ≤ 25) (hd : decodeE (kB.take n) = 182) :
    Calls Try.prog 36 #[.slice (some ad) n c] w fun e w' => e = .returned (.tuple #[.agg #[.int .i64 0, .slice none 0 0], .int .i64 182]) ∧ Below w.heap.size w w' := by
 have hl : (kB.take n).length = n := by rw [List.length_take]; exact Nat.min_eq_left hn
 have h2 := Kd.C_take h.2 hn
 have := Decode_any (some ad) c (kB.take n) w h2 (by rw [hl]; have := h.1; omega) (fun i => subN_lt (i := 0) (n := n) kB_8 i) (by rw [hl]; omega)
 rw [hl] at this
 refine this.mono ?_
 rintro e w' ⟨hb, h1⟩
 rcases h1 with ⟨_, rfl⟩ | ⟨h2, _⟩
 ·exact ⟨by rw [hd]; rfl, hb⟩
 ·rw [hd] at h2; exact absurd h2 (by decide)
theorem eq60 (a b c d e x y z u v : Int) (w : World) : (Op.equalIn 10000 60 (.agg #[.int .i64 a, .int .i64 b, .int .i64 c, .int .i64 d, .int .i64 e]) (.agg #[.int .i64 x, .int .i64 y, .int .i64 z, .int .i64 u, .int .i64 v])).run Try.prog w = .ok (a == x && (b == y && (c == z && (d == u && (e == v))))) w := by
 refine eqA_of Try.underlying60 (by kernel_rfl) ?_
 refine eqf_cons (by rfl) (by go_simp; rfl) (by go_simp; rfl) (by go_simp) ?_
 refine eqf_cons (by rfl) (by go_simp; rfl) (by go_simp; rfl) (by go_simp) ?_
 refine eqf_cons (by rfl) (by go_simp; rfl) (by go_simp; rfl) (by go_simp) ?_
 refine eqf_cons (by rfl) (by go_simp; rfl) (by go_simp; rfl) (by go_simp) ?_
 exact eqf_last (by rfl) (by go_simp; rfl) (by go_simp; rfl) (by go_simp)
theorem words_k1 (w : World) {az : Addr} {cz g : Nat} (h : (nat .u32).C w (some az) 1 [0]) (h1 : 1 ≤ cz) (hg : w.heap[g]? = some (.cells #[.int .u32 0] 24 (0, 0))) :
    Calls Try.prog 26 #[.slice (some az) 1 cz, .slice (some ⟨g, 0, none⟩) 1 1] w fun e w' => e = .returned (.bool true) ∧ Below w.heap.size w w' := by
 refine (words_nat (some az) (some ⟨g, 0, none⟩) cz 1 [0] [0] w h (C_new _ hg rfl (by decide)) h1 (by decide) (by decide)).mono ?_
 rintro e w' ⟨rfl, hd⟩
 exact ⟨by rw [decide_eq_true rfl], Drawn0.to_below hd⟩
theorem plane_k1 (w : World) {az ay : Addr} {cz cy : Nat} (h : (nat .u32).C w (some ay) 1 [0]) (h1 : 1 ≤ cy) (h' : (nat .u32).C w (some az) 1 [0]) (h1' : 1 ≤ cz) :
    Calls Try.prog 27 #[.agg #[.int .i64 1, .int .i64 1, .slice (some ay) 1 cy], .agg #[.int .i64 1, .int .i64 1, .slice (some az) 1 cz]] w fun e w' => e = .returned (.bool true) ∧ Below w.heap.size w w' := by
 refine (plane_nat (some ay) (some az) cy cz 1 1 1 1 [0] [0] w h h' h1 h1' (by decide)).mono ?_
 rintro e w' ⟨rfl, hd⟩
 exact ⟨by rw [decide_eq_true ⟨rfl, rfl, rfl⟩], hd⟩
theorem ints_k1 (w : World) {az : Addr} {cz g : Nat} (h : (nat .i64).C w (some az) 1 [0]) (h1 : 1 ≤ cz) (hg : w.heap[g]? = some (.cells #[.int .i64 0] 3 (0, 0))) :
    Calls Try.prog 41 #[.slice (some az) 1 cz, .slice (some ⟨g, 0, none⟩) 1 1] w fun e w' => e = .returned (.bool true) ∧ Below w.heap.size w w' := by
 refine (intsq_nat (some az) (some ⟨g, 0, none⟩) cz 1 [0] [0] w h (C_new _ hg rfl (by decide)) h1 (by decide) (by decide)).mono ?_
 rintro e w' ⟨rfl, hd⟩
 exact ⟨by rw [decide_eq_true rfl], Drawn0.to_below hd⟩
theorem Rests_k (w : World) : Calls Try.prog 22 #[.agg #[.int .i64 2, .int .i64 1, .slice (some ⟨w.heap.size, 0, none⟩) 2 2]] (w.alloc (.cells #[.int .u32 5, .int .u32 3] 24 (0, 0))) fun e w' => ∃ az cz, e = .returned (.tuple #[.slice (some az) 2 cz, .int .i64 0]) ∧ (nat .u32).C w' (some az) 2 [5, 4294967294] ∧ 2 ≤ cz ∧ Below w.heap.size w w' := by
 have hok : (Pl.mk 2 1 [5, 3]).ok := ⟨by decide, by decide, by decide, by decide, by decide, rfl, gt_lt_all (by decide) (by decide)⟩
 have hf := Rests_f hok ([5, 3].length + 1) (Nat.le_refl _)
 rw [show restsN [5, 3] 2 = [5, 4294967294] from k_rests.1] at hf
 refine (Rests_own (x := 2) (y := 1) (zs := [5, 3]) (rs := [5, 4294967294]) _ (C_new [5, 3] (blk_new w _) rfl (by decide)) (by decide) hf).mono ?_
 rintro e w' ⟨v, rfl, hR, hb⟩
 obtain ⟨az, cz, rfl⟩ := Kd.R_slice1 hR (by decide)
 have h4 := Kd.R_reads' hR
 exact ⟨az, cz, rfl, h4.2.2, h4.2.1, below_step (below1 w _) hb⟩
theorem Plane_k (w : World) : Calls Try.prog 24 #[.int .i64 2, .int .i64 1, .slice (some ⟨w.heap.size, 0, none⟩) 2 2] (w.alloc (.cells #[.int .u32 5, .int .u32 4294967294] 24 (0, 0))) fun e w' => ∃ az cz, e = .returned (.tuple #[.agg #[.int .i64 2, .int .i64 1, .slice (some az) 2 cz], .int .i64 0]) ∧ (nat .u32).C w' (some az) 2 [5, 3] ∧ 2 ≤ cz ∧ Below w.heap.size w w' := by
 have hok : (Pl.mk 2 1 [5, 4294967294]).ok := ⟨by decide, by decide, by decide, by decide, by decide, rfl, gt_lt_all (by decide) (by decide)⟩
 have hf := Plane_f hok ([5, 4294967294].length + 1) (Nat.le_refl _)
 rw [show planeN [5, 4294967294] 2 = [5, 3] from k_rests.2] at hf
 refine (Plane_own (x := 2) (y := 1) (rs := [5, 4294967294]) (zs := [5, 3]) _ (C_new [5, 4294967294] (blk_new w _) rfl (by decide)) (by decide) hf).mono ?_
 rintro e w' ⟨v, rfl, hR, hb⟩
 obtain ⟨az, cz, rfl⟩ := Kd.R_slice1 hR (by decide)
 have h4 := Kd.R_reads' hR
 exact ⟨az, cz, rfl, h4.2.2, h4.2.1, below_step (below1 w _) hb⟩
theorem words_k2 (w : World) {az : Addr} {cz x y : Nat} (h : (nat .u32).C w (some az) 2 [x, y]) (h1 : 2 ≤ cz) :
    Calls Try.prog 26 #[.slice (some az) 2 cz, .slice (some ⟨w.heap.size, 0, none⟩) 2 2] (w.alloc (.cells #[.int .u32 (x : Int), .int .u32 (y : Int)] 24 (0, 0))) fun e w' => e = .returned (.bool true) ∧ Below w.heap.size w w' := by
 refine (words_nat (some az) (some ⟨w.heap.size, 0, none⟩) cz 2 [x, y] [x, y] _ (Kd.C_below h (below1 w _)) (C_new _ (blk_new w _) rfl (by simp)) h1 (by simp) (by simp)).mono ?_
 rintro e w' ⟨rfl, hd⟩
 exact ⟨by rw [decide_eq_true rfl], below_step (below1 w _) (Drawn0.to_below hd)⟩
theorem words_ka (w : World) {az : Addr} {cz : Nat} (h : (nat .u32).C w (some az) 2 [5, 4294967294]) (h1 : 2 ≤ cz) :
    Calls Try.prog 26 #[.slice (some az) 2 cz, .slice (some ⟨w.heap.size, 0, none⟩) 2 2] (w.alloc (.cells #[.int .u32 5, .int .u32 4294967294] 24 (0, 0))) fun e w' => e = .returned (.bool true) ∧ Below w.heap.size w w' := words_k2 w h h1
theorem words_kb (w : World) {az : Addr} {cz : Nat} (h : (nat .u32).C w (some az) 2 [5, 3]) (h1 : 2 ≤ cz) :
    Calls Try.prog 26 #[.slice (some az) 2 cz, .slice (some ⟨w.heap.size, 0, none⟩) 2 2] (w.alloc (.cells #[.int .u32 5, .int .u32 3] 24 (0, 0))) fun e w' => e = .returned (.bool true) ∧ Below w.heap.size w w' := words_k2 w h h1
theorem C_newF {k : IntKind} {w : World} {g : Nat} {cells : Array Value} {e : TypeId} {fr : Nat × Nat} (xs : List Nat) (hb : w.heap[g]? = some (.cells cells e fr)) (hc : cells = (xs.map (fun x : Nat => Value.int k x)).toArray) (hl : xs.length ≤ 9223372036854775807) : (nat k).C w (some ⟨g, 0, none⟩) xs.length xs := by
 refine Kd.C_of_reads (d := 0) ⟨rfl, hl, fun hp => ⟨_, rfl, fun j hj => ?_⟩⟩
 rw [add_plain, show w.cell? ⟨g, j, none⟩ = cells[j]? by simp [World.cell?, hb], hc]
 simp [List.getElem?_eq_getElem hj]
theorem Sum_k (w : World) : Calls Try.prog 16 #[.slice (some ⟨w.heap.size, 0, none⟩) 9 9] (w.alloc (.cells #[.int .u8 49, .int .u8 50, .int .u8 51, .int .u8 52, .int .u8 53, .int .u8 54, .int .u8 55, .int .u8 56, .int .u8 57] 5 (9, 10))) fun e w' => e = .returned (.int .u32 3421780262) ∧ Below w.heap.size w w' := by
 refine (Sum_calls (some ⟨w.heap.size, 0, none⟩) 9 [49, 50, 51, 52, 53, 54, 55, 56, 57] _ (C_newF _ (blk_new w _) rfl (by decide)) (by decide) (gt_lt_all (by decide) (by decide)) (by decide)).mono ?_
 rintro e w' ⟨rfl, hb⟩
 exact ⟨by rw [crc_nine]; rfl, below_step (below1 w _) hb⟩
theorem Guess_k1 (w : World) : Calls Try.prog 19 #[.int .u32 2, .int .u32 3, .int .u32 1] w fun e w' => e = .returned (.int .u32 3) ∧ Below w.heap.size w w' := codec_Guess.calls 2 3 1 3 w (by decide +kernel)
theorem Guess_k2 (w : World) : Calls Try.prog 19 #[.int .u32 2, .int .u32 3, .int .u32 5] w fun e w' => e = .returned (.int .u32 2) ∧ Below w.heap.size w w' := codec_Guess.calls 2 3 5 2 w (by decide +kernel)
theorem Guess_k3 (w : World) : Calls Try.prog 19 #[.int .u32 0, .int .u32 2147483648, .int .u32 0] w fun e w' => e = .returned (.int .u32 2147483648) ∧ Below w.heap.size w w' := codec_Guess.calls 0 2147483648 0 2147483648 w (by decide +kernel)
/-- all that stands while the answers are looked at -/
structure KS (w : World) (g3 g5 g7 : Nat) (ap az aq ay ar ad : Addr) (cp cz cq cy cr c : Nat) : Prop where
 c3 : w.cell? ⟨g3, 1, none⟩ = some (.slice (some ap) 1 cp)
 c7 : w.cell? ⟨g7, 1, none⟩ = some (.slice (some aq) 1 cq)
 h0 : w.cell? ⟨g5, 0, none⟩ = some (.int .i64 0)
 h1 : w.cell? ⟨g5, 1, none⟩ = some (.int .i64 1)
 h2 : w.cell? ⟨g5, 2, none⟩ = some (.int .i64 1)
 h3 : w.cell? ⟨g5, 3, none⟩ = some (.int .i64 1)
 h4 : w.cell? ⟨g5, 4, none⟩ = some (.int .i64 1)
 p : KP w ap az cz
 q : KP w aq ay cy
 r : (nat .i64).C w (some ar) 1 [0]
 r1 : 1 ≤ cr
 b : KB w ad c
theorem KS.below {w w' : World} {g3 g5 g7 : Nat} {ap az aq ay ar ad : Addr} {cp cz cq cy cr c : Nat} (h : KS w g3 g5 g7 ap az aq ay ar ad cp cz cq cy cr c) (hb : Below w.heap.size w w') : KS w' g3 g5 g7 ap az aq ay ar ad cp cz cq cy cr c :=
 ⟨cell_on hb h.c3, cell_on hb h.c7, cell_on hb h.h0, cell_on hb h.h1, cell_on hb h.h2, cell_on hb h.h3, cell_on hb h.h4, h.p.below hb, h.q.below hb, Kd.C_below h.r hb, h.r1, h.b.below hb⟩

set_option maxHeartbeats 16000000 in
set_option maxRecDepth 100000 in
theorem known_calls (w : World) : Calls Try.prog 15 #[] w fun e w' => e = .returned (.bool true) ∧ Below w.heap.size w w' := by
 have hu47 := Try.underlying47
 have hu31 := Try.underlying31
 have hu60 := Try.underlying60
 have hu73 := Try.underlying73
 go_enter Try.func15, Try.ntmps15
 go_upto_region 2 with (go_at_call 31; with_reducible refine (Enc_k2 w).mono ?_; rintro e w1 ⟨ad, c, rfl, hc, hR, hb⟩; have B1 := Aside0.mk hb; have K1 := Aside0.mk hR; clear hR hb)
 have k1 : 16 ≤ c := by omega
 have k2 : 20 ≤ c := by omega
 go_upto_region 4 with (first | (go_at_call 18; with_reducible refine (same16 _ (K1.out.below (below1 w1 _)) (blk_new w1 _)).mono ?_; rintro e w2 ⟨rfl, hb⟩; have K2 := Aside0.mk ((K1.out.below (below1 w1 _)).below hb); have B2 := Aside0.mk (below_step (below_step B1.out (below1 w1 _)) hb); clear hb) | (go_at_call 18; with_reducible refine (same5 _ (K2.out.below (below1 w2 _)) (blk_new w2 _)).mono ?_; rintro e w3 ⟨rfl, hb⟩; have K3 := Aside0.mk ((K2.out.below (below1 w2 _)).below hb); have B3 := Aside0.mk (below_step (below_step B2.out (below1 w2 _)) hb); clear hb))
 clear K1 K2 B1 B2
 go_upto_region 5 with (first | (go_at_call 36; with_reducible refine (Dec_k _ K3.out).mono ?_; rintro e w4 ⟨ap, cp, az, cz, rfl, hP, hb⟩; have P4 := Aside0.mk hP; have K4 := Aside0.mk (K3.out.below hb); have B4 := Aside0.mk (below_step B3.out hb); clear hP hb) | ((with_reducible refine gate_dst (N := 3) rfl ?_); refine box_event ?hg (N := 3) ?hd (cs := #[.int .i64 0, .slice none 0 0]) (t := 47) ?hr ?_; (case hd => rfl); (case hg => rfl); (case hr => first | (go_simp; done) | (go_simp; rfl)); intro g3 hg_ w5 hm_ hb_; have X_ := Aside0.mk (put2 (x := .int .i64 0) (y := .slice (some ap) 1 cp) hm_ rfl); have HB_ := Aside0.mk ((show Below w4.heap.size w4 w5 from hb_).trans (X_.out.2.2 _ (by rw [hg_]; exact Nat.le_refl _))); have P6 := Aside0.mk (P4.out.below HB_.out); have K6 := Aside0.mk (K4.out.below HB_.out); have B6 := Aside0.mk (below_step B4.out HB_.out); have M_ := Aside0.mk hm_; have o0 := (blk_cell M_.out 0).trans rfl; have o1 := (blk_cell M_.out 1).trans rfl; have fo0 := blk_frozen M_.out 0; have fo1 := blk_frozen M_.out 1; have G6 := Aside0.mk (X_.out.1); clear hm_ hb_ hg_ X_ HB_ M_))
 generalize (w5.setCell ⟨g3, 0, none⟩ (.int .i64 0)).setCell ⟨g3, 1, none⟩ (.slice (some ap) 1 cp) = w6 at *
 clear o0 o1 fo0 fo1 K3 B3 K4 B4 P4
 go_upto_region 6 with (first | (go_at_call 37; with_reducible refine (Read_k _ K6.out).mono ?_; rintro e w7 ⟨rfl, hb⟩; have P7 := Aside0.mk (P6.out.below hb); have K7 := Aside0.mk (K6.out.below hb); have G7 := Aside0.mk (blk_below G6.out hb); have B7 := Aside0.mk (below_step B6.out hb); clear hb) | ((with_reducible refine gate_dst (N := 5) rfl ?_); refine box_event ?hg (N := 5) ?hd (cs := #[.int .i64 0, .int .i64 0, .int .i64 0, .int .i64 0, .int .i64 0]) (t := 60) ?hr ?_; (case hd => rfl); (case hg => rfl); (case hr => first | (go_simp; done) | (go_simp; rfl)); intro g5 hg_ w8 hm_ hb_; have X_ := Aside0.mk (put5 (x := .int .i64 0) (y := .int .i64 1) (z := .int .i64 1) (u := .int .i64 1) (v := .int .i64 1) hm_ rfl); have HB_ := Aside0.mk ((show Below w7.heap.size w7 w8 from hb_).trans (X_.out.2.2 _ (by rw [hg_]; exact Nat.le_refl _))); have P9 := Aside0.mk (P7.out.below HB_.out); have K9 := Aside0.mk (K7.out.below HB_.out); have G9 := Aside0.mk (blk_below G7.out HB_.out); have B9 := Aside0.mk (below_step B7.out HB_.out); have M_ := Aside0.mk hm_; have o0 := (blk_cell M_.out 0).trans rfl; have o1 := (blk_cell M_.out 1).trans rfl; have o2 := (blk_cell M_.out 2).trans rfl; have o3 := (blk_cell M_.out 3).trans rfl; have o4 := (blk_cell M_.out 4).trans rfl; have fo0 := blk_frozen M_.out 0; have fo1 := blk_frozen M_.out 1; have fo2 := blk_frozen M_.out 2; have fo3 := blk_frozen M_.out 3; have fo4 := blk_frozen M_.out 4; have H9 := Aside0.mk (X_.out.1); clear hm_ hb_ hg_ X_ HB_ M_))
 generalize ((((w8.setCell ⟨g5, 0, none⟩ (.int .i64 0)).setCell ⟨g5, 1, none⟩ (.int .i64 1)).setCell ⟨g5, 2, none⟩ (.int .i64 1)).setCell ⟨g5, 3, none⟩ (.int .i64 1)).setCell ⟨g5, 4, none⟩ (.int .i64 1) = w9 at *
 clear o0 o1 o2 o3 o4 fo0 fo1 fo2 fo3 fo4 K7 B7 G7 P7 K6 B6 G6 P6
 go_upto_region 7 with (first | (go_at_call 40; with_reducible refine (Reg_k _ K9.out).mono ?_; rintro e w10 ⟨aq, cq, ay, cy, ar, cr, rfl, hQ, hR, hr1, hb⟩; have Q10 := Aside0.mk hQ; have R10 := Aside0.mk hR; have P10 := Aside0.mk (P9.out.below hb); have K10 := Aside0.mk (K9.out.below hb); have G10 := Aside0.mk (blk_below G9.out hb); have H10 := Aside0.mk (blk_below H9.out hb); have B10 := Aside0.mk (below_step B9.out hb); have HR1 := Aside0.mk hr1; clear hQ hR hb hr1) | ((with_reducible refine gate_dst (N := 7) rfl ?_); refine box_event ?hg (N := 7) ?hd (cs := #[.int .i64 0, .slice none 0 0]) (t := 47) ?hr ?_; (case hd => rfl); (case hg => rfl); (case hr => first | (go_simp; done) | (go_simp; rfl)); intro g7 hg_ w11 hm_ hb_; have X_ := Aside0.mk (put2 (x := .int .i64 0) (y := .slice (some aq) 1 cq) hm_ rfl); have HB_ := Aside0.mk ((show Below w10.heap.size w10 w11 from hb_).trans (X_.out.2.2 _ (by rw [hg_]; exact Nat.le_refl _))); have P12 := Aside0.mk (P10.out.below HB_.out); have Q12 := Aside0.mk (Q10.out.below HB_.out); have K12 := Aside0.mk (K10.out.below HB_.out); have G12 := Aside0.mk (blk_below G10.out HB_.out); have H12 := Aside0.mk (blk_below H10.out HB_.out); have B12 := Aside0.mk (below_step B10.out HB_.out); have R12 := Aside0.mk (Kd.C_below R10.out HB_.out); have M_ := Aside0.mk hm_; have o0 := (blk_cell M_.out 0).trans rfl; have o1 := (blk_cell M_.out 1).trans rfl; have fo0 := blk_frozen M_.out 0; have fo1 := blk_frozen M_.out 1; have J12 := Aside0.mk (X_.out.1); clear hm_ hb_ hg_ X_ HB_ M_))
 generalize (w11.setCell ⟨g7, 0, none⟩ (.int .i64 0)).setCell ⟨g7, 1, none⟩ (.slice (some aq) 1 cq) = w12 at *
 clear o0 o1 fo0 fo1 K10 B10 G10 P10 H10 Q10 R10 K9 B9 G9 P9 H9
 have S12 : Aside0 (KS w12 g3 g5 g7 ap az aq ay ar ad cp cz cq cy cr c) := ⟨⟨(blk_cell G12.out 1).trans rfl, (blk_cell J12.out 1).trans rfl, (blk_cell H12.out 0).trans rfl, (blk_cell H12.out 1).trans rfl, (blk_cell H12.out 2).trans rfl, (blk_cell H12.out 3).trans rfl, (blk_cell H12.out 4).trans rfl, P12.out, Q12.out, R12.out, HR1.out, K12.out⟩⟩
 clear G12 J12 H12 P12 Q12 R12 K12 HR1
 have S12 := Aside0.mk (S12.out.below (below_drew1 (Below.refl _ w12)))
 have B12 := Aside0.mk (below_drew1 B12.out)
 have w00 : IntKind.i64.wrap 0 = 0 := by simp only [IntKind.wrap_i64]; omega
 have w01 : IntKind.i64.wrap (0 + 0) = 0 := by simp only [IntKind.wrap_i64]; omega
 have hq60 : ∀ w, (Op.equalIn 10000 60 (.agg #[.int .i64 0, .int .i64 1, .int .i64 1, .int .i64 1, .int .i64 1]) (.agg #[.int .i64 0, .int .i64 1, .int .i64 1, .int .i64 1, .int .i64 1])).run Try.prog w = .ok true w := fun w => eq60 0 1 1 1 1 0 1 1 1 1 w
 refine start_ (n := 51) (S := fun w' => w'.cell? ⟨g3, 1, none⟩ = some (.slice (some ap) 1 cp) ∧ w'.cell? ⟨g7, 1, none⟩ = some (.slice (some aq) 1 cq) ∧ w'.cell? ⟨g5, 0, none⟩ = some (.int .i64 0) ∧ w'.cell? ⟨g5, 1, none⟩ = some (.int .i64 1) ∧ w'.cell? ⟨g5, 2, none⟩ = some (.int .i64 1) ∧ w'.cell? ⟨g5, 3, none⟩ = some (.int .i64 1) ∧ w'.cell? ⟨g5, 4, none⟩ = some (.int .i64 1) ∧ w'.cell? ap = some (.int .i64 1) ∧ w'.cell? ⟨ap.block, ap.off + 1, none⟩ = some (.int .i64 1) ∧ w'.cell? ⟨ap.block, ap.off + 2, none⟩ = some (.slice (some az) 1 cz) ∧ w'.cell? aq = some (.int .i64 1) ∧ w'.cell? ⟨aq.block, aq.off + 1, none⟩ = some (.int .i64 1) ∧ w'.cell? ⟨aq.block, aq.off + 2, none⟩ = some (.slice (some ay) 1 cy)) (ds := []) #[ff_,ff_,ff_,ff_,ff_,ff_,ff_,ff_,ff_,ff_,ff_,ff_,ff_,ff_,ff_,ff_,ff_,ff_,ff_,ff_,ff_,ff_,ff_,ff_,ff_,ff_,ff_,ff_,ff_,ff_,ff_,ff_,ff_,ff_,ff_,ff_,ff_,ff_,ff_,ff_,ff_,ff_,ff_,ff_,ff_,ff_,ff_,ff_,ff_,ff_,ff_] (by kernel_rfl) rfl rfl ⟨S12.out.c3, S12.out.c7, S12.out.h0, S12.out.h1, S12.out.h2, S12.out.h3, S12.out.h4, S12.out.p.a0, S12.out.p.a1, S12.out.p.a2, S12.out.q.a0, S12.out.q.a1, S12.out.q.a2⟩ (fun hHeld => ?_)
 generalize w12.drew = wd at *
 refine pure_ (i := 0) (N := some 64) (v := ?_) (a' := ?_) #[tt_,ff_,ff_,ff_,ff_,ff_,ff_,ff_,ff_,ff_,ff_,ff_,ff_,ff_,ff_,ff_,ff_,ff_,ff_,ff_,ff_,ff_,ff_,ff_,ff_,ff_,ff_,ff_,ff_,ff_,ff_,ff_,ff_,ff_,ff_,ff_,ff_,ff_,ff_,ff_,ff_,ff_,ff_,ff_,ff_,ff_,ff_,ff_,ff_,ff_,ff_] rfl rfl (by kernel_rfl) (fun _ _ _ h => h) (Or.inl ⟨by rfl, ?_⟩) ?_ ?_
 rotate_left
 ·intro w'
  go_simp
  with_reducible rfl
 rotate_left
 ·simp only [Act.put, List.setIfInBounds_toArray, List.set_cons_zero, List.set_cons_succ, i64_w, i32_w]
  rfl
 refine pure_ (i := 1) (N := some 65) (v := ?_) (a' := ?_) #[tt_,tt_,ff_,ff_,ff_,ff_,ff_,ff_,ff_,ff_,ff_,ff_,ff_,ff_,ff_,ff_,ff_,ff_,ff_,ff_,ff_,ff_,ff_,ff_,ff_,ff_,ff_,ff_,ff_,ff_,ff_,ff_,ff_,ff_,ff_,ff_,ff_,ff_,ff_,ff_,ff_,ff_,ff_,ff_,ff_,ff_,ff_,ff_,ff_,ff_,ff_] rfl rfl (by kernel_rfl) (fun _ _ _ h => h) (Or.inl ⟨by rfl, ?_⟩) ?_ ?_
 rotate_left
 ·intro w'
  go_simp
  with_reducible rfl
 rotate_left
 ·simp only [Act.put, List.setIfInBounds_toArray, List.set_cons_zero, List.set_cons_succ, i64_w, i32_w]
  rfl
 refine pure_ (i := 2) (N := some 66) (v := ?_) (a' := ?_) #[tt_,tt_,tt_,ff_,ff_,ff_,ff_,ff_,ff_,ff_,ff_,ff_,ff_,ff_,ff_,ff_,ff_,ff_,ff_,ff_,ff_,ff_,ff_,ff_,ff_,ff_,ff_,ff_,ff_,ff_,ff_,ff_,ff_,ff_,ff_,ff_,ff_,ff_,ff_,ff_,ff_,ff_,ff_,ff_,ff_,ff_,ff_,ff_,ff_,ff_,ff_] rfl rfl (by kernel_rfl) (fun _ _ _ h => h) (Or.inl ⟨by rfl, ?_⟩) ?_ ?_
 rotate_left
 ·intro w'
  go_simp
  with_reducible rfl
 rotate_left
 ·simp only [Act.put, List.setIfInBounds_toArray, List.set_cons_zero, List.set_cons_succ, i64_w, i32_w]
  rfl
 refine pure_ (i := 3) (N := some 67) (v := ?_) (a' := ?_) #[tt_,tt_,tt_,tt_,ff_,ff_,ff_,ff_,ff_,ff_,ff_,ff_,ff_,ff_,ff_,ff_,ff_,ff_,ff_,ff_,ff_,ff_,ff_,ff_,ff_,ff_,ff_,ff_,ff_,ff_,ff_,ff_,ff_,ff_,ff_,ff_,ff_,ff_,ff_,ff_,ff_,ff_,ff_,ff_,ff_,ff_,ff_,ff_,ff_,ff_,ff_] rfl rfl (by kernel_rfl) (fun _ _ _ h => h) (Or.inl ⟨by rfl, ?_⟩) ?_ ?_
 rotate_left
 ·intro w'
  go_simp
  with_reducible rfl
 rotate_left
 ·simp only [Act.put, List.setIfInBounds_toArray, List.set_cons_zero, List.set_cons_succ, i64_w, i32_w]
  rfl
 refine pure_ (i := 4) (N := some 68) (v := ?_) (a' := ?_) #[tt_,tt_,tt_,tt_,tt_,ff_,ff_,ff_,ff_,ff_,ff_,ff_,ff_,ff_,ff_,ff_,ff_,ff_,ff_,ff_,ff_,ff_,ff_,ff_,ff_,ff_,ff_,ff_,ff_,ff_,ff_,ff_,ff_,ff_,ff_,ff_,ff_,ff_,ff_,ff_,ff_,ff_,ff_,ff_,ff_,ff_,ff_,ff_,ff_,ff_,ff_] rfl rfl (by kernel_rfl) (fun _ _ _ h => h) (Or.inl ⟨by rfl, ?_⟩) ?_ ?_
 rotate_left
 ·intro w'
  go_simp
  with_reducible rfl
 rotate_left
 ·simp only [Act.put, List.setIfInBounds_toArray, List.set_cons_zero, List.set_cons_succ, i64_w, i32_w]
  rfl
 refine pure_ (i := 5) (N := some 69) (v := ?_) (a' := ?_) #[tt_,tt_,tt_,tt_,tt_,tt_,ff_,ff_,ff_,ff_,ff_,ff_,ff_,ff_,ff_,ff_,ff_,ff_,ff_,ff_,ff_,ff_,ff_,ff_,ff_,ff_,ff_,ff_,ff_,ff_,ff_,ff_,ff_,ff_,ff_,ff_,ff_,ff_,ff_,ff_,ff_,ff_,ff_,ff_,ff_,ff_,ff_,ff_,ff_,ff_,ff_] rfl rfl (by kernel_rfl) (fun _ _ _ h => h) (Or.inl ⟨by rfl, ?_⟩) ?_ ?_
 rotate_left
 ·intro w'
  go_simp
  with_reducible rfl
 rotate_left
 ·simp only [Act.put, List.setIfInBounds_toArray, List.set_cons_zero, List.set_cons_succ, i64_w, i32_w]
  rfl
 refine pure_ (i := 6) (N := some 70) (v := ?_) (a' := ?_) #[tt_,tt_,tt_,tt_,tt_,tt_,tt_,ff_,ff_,ff_,ff_,ff_,ff_,ff_,ff_,ff_,ff_,ff_,ff_,ff_,ff_,ff_,ff_,ff_,ff_,ff_,ff_,ff_,ff_,ff_,ff_,ff_,ff_,ff_,ff_,ff_,ff_,ff_,ff_,ff_,ff_,ff_,ff_,ff_,ff_,ff_,ff_,ff_,ff_,ff_,ff_] rfl rfl (by kernel_rfl) (fun _ _ _ h => h) (Or.inl ⟨by rfl, ?_⟩) ?_ ?_
 rotate_left
 ·intro w'
  go_simp
  with_reducible rfl
 rotate_left
 ·simp only [Act.put, List.setIfInBounds_toArray, List.set_cons_zero, List.set_cons_succ, i64_w, i32_w]
  rfl
 refine pure_ (i := 7) (N := some 71) (v := ?_) (a' := ?_) #[tt_,tt_,tt_,tt_,tt_,tt_,tt_,tt_,ff_,ff_,ff_,ff_,ff_,ff_,ff_,ff_,ff_,ff_,ff_,ff_,ff_,ff_,ff_,ff_,ff_,ff_,ff_,ff_,ff_,ff_,ff_,ff_,ff_,ff_,ff_,ff_,ff_,ff_,ff_,ff_,ff_,ff_,ff_,ff_,ff_,ff_,ff_,ff_,ff_,ff_,ff_] rfl rfl (by kernel_rfl) (fun _ _ _ h => h) (Or.inl ⟨by rfl, ?_⟩) ?_ ?_
 rotate_left
 ·intro w'
  go_simp
  with_reducible rfl
 rotate_left
 ·simp only [Act.put, List.setIfInBounds_toArray, List.set_cons_zero, List.set_cons_succ, i64_w, i32_w]
  rfl
 refine take_ (i := 8) (N := some 72) (v := ?_) (a' := ?_) #[tt_,tt_,tt_,tt_,tt_,tt_,tt_,tt_,tt_,ff_,ff_,ff_,ff_,ff_,ff_,ff_,ff_,ff_,ff_,ff_,ff_,ff_,ff_,ff_,ff_,ff_,ff_,ff_,ff_,ff_,ff_,ff_,ff_,ff_,ff_,ff_,ff_,ff_,ff_,ff_,ff_,ff_,ff_,ff_,ff_,ff_,ff_,ff_,ff_,ff_,ff_] rfl rfl (by kernel_rfl) (fun _ _ _ h => h) (Or.inl ⟨by rfl, ?_⟩) hHeld ?_ ?_
 rotate_left
 ·rintro w' ⟨s0, s1, s2, s3, s4, s5, s6, s7, s8, s9, s10, s11, s12⟩
  go_simp
  with_reducible rfl
 rotate_left
 ·simp only [Act.put, List.setIfInBounds_toArray, List.set_cons_zero, List.set_cons_succ, i64_w, i32_w]
  rfl
 refine pure_ (i := 9) (N := some 73) (v := ?_) (a' := ?_) #[tt_,tt_,tt_,tt_,tt_,tt_,tt_,tt_,tt_,tt_,ff_,ff_,ff_,ff_,ff_,ff_,ff_,ff_,ff_,ff_,ff_,ff_,ff_,ff_,ff_,ff_,ff_,ff_,ff_,ff_,ff_,ff_,ff_,ff_,ff_,ff_,ff_,ff_,ff_,ff_,ff_,ff_,ff_,ff_,ff_,ff_,ff_,ff_,ff_,ff_,ff_] rfl rfl (by kernel_rfl) (fun _ _ _ h => h) (Or.inl ⟨by rfl, ?_⟩) ?_ ?_
 rotate_left
 ·intro w'
  go_simp
  with_reducible rfl
 rotate_left
 ·simp only [Act.put, List.setIfInBounds_toArray, List.set_cons_zero, List.set_cons_succ, i64_w, i32_w]
  rfl
 refine pure_ (i := 10) (N := some 74) (v := ?_) (a' := ?_) #[tt_,tt_,tt_,tt_,tt_,tt_,tt_,tt_,tt_,tt_,tt_,ff_,ff_,ff_,ff_,ff_,ff_,ff_,ff_,ff_,ff_,ff_,ff_,ff_,ff_,ff_,ff_,ff_,ff_,ff_,ff_,ff_,ff_,ff_,ff_,ff_,ff_,ff_,ff_,ff_,ff_,ff_,ff_,ff_,ff_,ff_,ff_,ff_,ff_,ff_,ff_] rfl rfl (by kernel_rfl) (fun _ _ _ h => h) (Or.inl ⟨by rfl, ?_⟩) ?_ ?_
 rotate_left
 ·intro w'
  go_simp
  with_reducible rfl
 rotate_left
 ·simp only [Act.put, List.setIfInBounds_toArray, List.set_cons_zero, List.set_cons_succ, i64_w, i32_w]
  rfl
 refine pure_ (i := 11) (N := some 75) (v := ?_) (a' := ?_) #[tt_,tt_,tt_,tt_,tt_,tt_,tt_,tt_,tt_,tt_,tt_,tt_,ff_,ff_,ff_,ff_,ff_,ff_,ff_,ff_,ff_,ff_,ff_,ff_,ff_,ff_,ff_,ff_,ff_,ff_,ff_,ff_,ff_,ff_,ff_,ff_,ff_,ff_,ff_,ff_,ff_,ff_,ff_,ff_,ff_,ff_,ff_,ff_,ff_,ff_,ff_] rfl rfl (by kernel_rfl) (fun _ _ _ h => h) (Or.inl ⟨by rfl, ?_⟩) ?_ ?_
 rotate_left
 ·intro w'
  go_simp
  with_reducible rfl
 rotate_left
 ·simp only [Act.put, List.setIfInBounds_toArray, List.set_cons_zero, List.set_cons_succ, i64_w, i32_w]
  rfl
 refine pure_ (i := 12) (N := some 76) (v := ?_) (a' := ?_) #[tt_,tt_,tt_,tt_,tt_,tt_,tt_,tt_,tt_,tt_,tt_,tt_,tt_,ff_,ff_,ff_,ff_,ff_,ff_,ff_,ff_,ff_,ff_,ff_,ff_,ff_,ff_,ff_,ff_,ff_,ff_,ff_,ff_,ff_,ff_,ff_,ff_,ff_,ff_,ff_,ff_,ff_,ff_,ff_,ff_,ff_,ff_,ff_,ff_,ff_,ff_] rfl rfl (by kernel_rfl) (fun _ _ _ h => h) (Or.inl ⟨by rfl, ?_⟩) ?_ ?_
 rotate_left
 ·intro w'
  go_simp
  with_reducible rfl
 rotate_left
 ·simp only [Act.put, List.setIfInBounds_toArray, List.set_cons_zero, List.set_cons_succ, i64_w, i32_w]
  rfl
 refine pure_ (i := 13) (N := some 77) (v := ?_) (a' := ?_) #[tt_,tt_,tt_,tt_,tt_,tt_,tt_,tt_,tt_,tt_,tt_,tt_,tt_,tt_,ff_,ff_,ff_,ff_,ff_,ff_,ff_,ff_,ff_,ff_,ff_,ff_,ff_,ff_,ff_,ff_,ff_,ff_,ff_,ff_,ff_,ff_,ff_,ff_,ff_,ff_,ff_,ff_,ff_,ff_,ff_,ff_,ff_,ff_,ff_,ff_,ff_] rfl rfl (by kernel_rfl) (fun _ _ _ h => h) (Or.inl ⟨by rfl, ?_⟩) ?_ ?_
 rotate_left
 ·intro w'
  go_simp
  with_reducible rfl
 rotate_left
 ·simp only [Act.put, List.setIfInBounds_toArray, List.set_cons_zero, List.set_cons_succ, i64_w, i32_w]
  rfl
 refine take_ (i := 14) (N := some 78) (v := ?_) (a' := ?_) #[tt_,tt_,tt_,tt_,tt_,tt_,tt_,tt_,tt_,tt_,tt_,tt_,tt_,tt_,tt_,ff_,ff_,ff_,ff_,ff_,ff_,ff_,ff_,ff_,ff_,ff_,ff_,ff_,ff_,ff_,ff_,ff_,ff_,ff_,ff_,ff_,ff_,ff_,ff_,ff_,ff_,ff_,ff_,ff_,ff_,ff_,ff_,ff_,ff_,ff_,ff_] rfl rfl (by kernel_rfl) (fun _ _ _ h => h) (Or.inl ⟨by rfl, ?_⟩) hHeld ?_ ?_
 rotate_left
 ·rintro w' ⟨s0, s1, s2, s3, s4, s5, s6, s7, s8, s9, s10, s11, s12⟩
  go_simp
  with_reducible rfl
 rotate_left
 ·simp only [Act.put, List.setIfInBounds_toArray, List.set_cons_zero, List.set_cons_succ, i64_w, i32_w]
  rfl
 refine pure_ (i := 15) (N := some 79) (v := ?_) (a' := ?_) #[tt_,tt_,tt_,tt_,tt_,tt_,tt_,tt_,tt_,tt_,tt_,tt_,tt_,tt_,tt_,tt_,ff_,ff_,ff_,ff_,ff_,ff_,ff_,ff_,ff_,ff_,ff_,ff_,ff_,ff_,ff_,ff_,ff_,ff_,ff_,ff_,ff_,ff_,ff_,ff_,ff_,ff_,ff_,ff_,ff_,ff_,ff_,ff_,ff_,ff_,ff_] rfl rfl (by kernel_rfl) (fun _ _ _ h => h) (Or.inl ⟨by rfl, ?_⟩) ?_ ?_
 rotate_left
 ·intro w'
  go_simp
  with_reducible rfl
 rotate_left
 ·simp only [Act.put, List.setIfInBounds_toArray, List.set_cons_zero, List.set_cons_succ, i64_w, i32_w]
  rfl
 refine pure_ (i := 16) (N := some 80) (v := ?_) (a' := ?_) #[tt_,tt_,tt_,tt_,tt_,tt_,tt_,tt_,tt_,tt_,tt_,tt_,tt_,tt_,tt_,tt_,tt_,ff_,ff_,ff_,ff_,ff_,ff_,ff_,ff_,ff_,ff_,ff_,ff_,ff_,ff_,ff_,ff_,ff_,ff_,ff_,ff_,ff_,ff_,ff_,ff_,ff_,ff_,ff_,ff_,ff_,ff_,ff_,ff_,ff_,ff_] rfl rfl (by kernel_rfl) (fun _ _ _ h => h) (Or.inl ⟨by rfl, ?_⟩) ?_ ?_
 rotate_left
 ·intro w'
  go_simp
  with_reducible rfl
 rotate_left
 ·simp only [Act.put, List.setIfInBounds_toArray, List.set_cons_zero, List.set_cons_succ, i64_w, i32_w]
  rfl
 refine pure_ (i := 17) (N := some 81) (v := ?_) (a' := ?_) #[tt_,tt_,tt_,tt_,tt_,tt_,tt_,tt_,tt_,tt_,tt_,tt_,tt_,tt_,tt_,tt_,tt_,tt_,ff_,ff_,ff_,ff_,ff_,ff_,ff_,ff_,ff_,ff_,ff_,ff_,ff_,ff_,ff_,ff_,ff_,ff_,ff_,ff_,ff_,ff_,ff_,ff_,ff_,ff_,ff_,ff_,ff_,ff_,ff_,ff_,ff_] rfl rfl (by kernel_rfl) (fun _ _ _ h => h) (Or.inl ⟨by rfl, ?_⟩) ?_ ?_
 rotate_left
 ·intro w'
  go_simp
  with_reducible rfl
 rotate_left
 ·simp only [Act.put, List.setIfInBounds_toArray, List.set_cons_zero, List.set_cons_succ, i64_w, i32_w]
  rfl
 refine pure_ (i := 18) (N := some 82) (v := ?_) (a' := ?_) #[tt_,tt_,tt_,tt_,tt_,tt_,tt_,tt_,tt_,tt_,tt_,tt_,tt_,tt_,tt_,tt_,tt_,tt_,tt_,ff_,ff_,ff_,ff_,ff_,ff_,ff_,ff_,ff_,ff_,ff_,ff_,ff_,ff_,ff_,ff_,ff_,ff_,ff_,ff_,ff_,ff_,ff_,ff_,ff_,ff_,ff_,ff_,ff_,ff_,ff_,ff_] rfl rfl (by kernel_rfl) (fun _ _ _ h => h) (Or.inl ⟨by rfl, ?_⟩) ?_ ?_
 rotate_left
 ·intro w'
  go_simp
  with_reducible rfl
 rotate_left
 ·simp only [Act.put, List.setIfInBounds_toArray, List.set_cons_zero, List.set_cons_succ, i64_w, i32_w]
  rfl
 refine pure_ (i := 19) (N := some 83) (v := ?_) (a' := ?_) #[tt_,tt_,tt_,tt_,tt_,tt_,tt_,tt_,tt_,tt_,tt_,tt_,tt_,tt_,tt_,tt_,tt_,tt_,tt_,tt_,ff_,ff_,ff_,ff_,ff_,ff_,ff_,ff_,ff_,ff_,ff_,ff_,ff_,ff_,ff_,ff_,ff_,ff_,ff_,ff_,ff_,ff_,ff_,ff_,ff_,ff_,ff_,ff_,ff_,ff_,ff_] rfl rfl (by kernel_rfl) (fun _ _ _ h => h) (Or.inl ⟨by rfl, ?_⟩) ?_ ?_
 rotate_left
 ·intro w'
  go_simp
  with_reducible rfl
 rotate_left
 ·simp only [Act.put, List.setIfInBounds_toArray, List.set_cons_zero, List.set_cons_succ, i64_w, i32_w]
  rfl
 refine take_ (i := 20) (N := some 84) (v := ?_) (a' := ?_) #[tt_,tt_,tt_,tt_,tt_,tt_,tt_,tt_,tt_,tt_,tt_,tt_,tt_,tt_,tt_,tt_,tt_,tt_,tt_,tt_,tt_,ff_,ff_,ff_,ff_,ff_,ff_,ff_,ff_,ff_,ff_,ff_,ff_,ff_,ff_,ff_,ff_,ff_,ff_,ff_,ff_,ff_,ff_,ff_,ff_,ff_,ff_,ff_,ff_,ff_,ff_] rfl rfl (by kernel_rfl) (fun _ _ _ h => h) (Or.inl ⟨by rfl, ?_⟩) hHeld ?_ ?_
 rotate_left
 ·rintro w' ⟨s0, s1, s2, s3, s4, s5, s6, s7, s8, s9, s10, s11, s12⟩
  go_simp
  with_reducible rfl
 rotate_left
 ·simp only [Act.put, List.setIfInBounds_toArray, List.set_cons_zero, List.set_cons_succ, i64_w, i32_w]
  rfl
 refine pure_ (i := 21) (N := some 85) (v := ?_) (a' := ?_) #[tt_,tt_,tt_,tt_,tt_,tt_,tt_,tt_,tt_,tt_,tt_,tt_,tt_,tt_,tt_,tt_,tt_,tt_,tt_,tt_,tt_,tt_,ff_,ff_,ff_,ff_,ff_,ff_,ff_,ff_,ff_,ff_,ff_,ff_,ff_,ff_,ff_,ff_,ff_,ff_,ff_,ff_,ff_,ff_,ff_,ff_,ff_,ff_,ff_,ff_,ff_] rfl rfl (by kernel_rfl) (fun _ _ _ h => h) (Or.inl ⟨by rfl, ?_⟩) ?_ ?_
 rotate_left
 ·intro w'
  go_simp
  with_reducible rfl
 rotate_left
 ·simp only [Act.put, List.setIfInBounds_toArray, List.set_cons_zero, List.set_cons_succ, i64_w, i32_w]
  rfl
 refine pure_ (i := 22) (N := some 86) (v := ?_) (a' := ?_) #[tt_,tt_,tt_,tt_,tt_,tt_,tt_,tt_,tt_,tt_,tt_,tt_,tt_,tt_,tt_,tt_,tt_,tt_,tt_,tt_,tt_,tt_,tt_,ff_,ff_,ff_,ff_,ff_,ff_,ff_,ff_,ff_,ff_,ff_,ff_,ff_,ff_,ff_,ff_,ff_,ff_,ff_,ff_,ff_,ff_,ff_,ff_,ff_,ff_,ff_,ff_] rfl rfl (by kernel_rfl) (fun _ _ _ h => h) (Or.inl ⟨by rfl, ?_⟩) ?_ ?_
 rotate_left
 ·intro w'
  go_simp
  with_reducible rfl
 rotate_left
 ·simp only [Act.put, List.setIfInBounds_toArray, List.set_cons_zero, List.set_cons_succ, i64_w, i32_w]
  rfl
 refine take_ (i := 23) (N := some 87) (v := ?_) (a' := ?_) #[tt_,tt_,tt_,tt_,tt_,tt_,tt_,tt_,tt_,tt_,tt_,tt_,tt_,tt_,tt_,tt_,tt_,tt_,tt_,tt_,tt_,tt_,tt_,tt_,ff_,ff_,ff_,ff_,ff_,ff_,ff_,ff_,ff_,ff_,ff_,ff_,ff_,ff_,ff_,ff_,ff_,ff_,ff_,ff_,ff_,ff_,ff_,ff_,ff_,ff_,ff_] rfl rfl (by kernel_rfl) (fun _ _ _ h => h) (Or.inl ⟨by rfl, ?_⟩) hHeld ?_ ?_
 rotate_left
 ·rintro w' ⟨s0, s1, s2, s3, s4, s5, s6, s7, s8, s9, s10, s11, s12⟩
  go_simp
  with_reducible rfl
 rotate_left
 ·simp only [Act.put, List.setIfInBounds_toArray, List.set_cons_zero, List.set_cons_succ, i64_w, i32_w]
  rfl
 refine one_ (i := 24) (N := some 88) #[tt_,tt_,tt_,tt_,tt_,tt_,tt_,tt_,tt_,tt_,tt_,tt_,tt_,tt_,tt_,tt_,tt_,tt_,tt_,tt_,tt_,tt_,tt_,tt_,tt_,ff_,ff_,ff_,ff_,ff_,ff_,ff_,ff_,ff_,ff_,ff_,ff_,ff_,ff_,ff_,ff_,ff_,ff_,ff_,ff_,ff_,ff_,ff_,ff_,ff_,ff_] rfl rfl (by kernel_rfl) (by decide) (fun K hK => ?_)
 refine value_ (w1 := ?_) (v := ?_) (by rfl) rfl ?_ ?_
 rotate_left 2
 ·go_simp
  constructor
  ·rfl
  ·rfl
 have S13 := Aside0.mk (S12.out.below (below1 wd (.cells #[.int .u32 0] 24 (0, 0))))
 have B13 := Aside0.mk (below_step B12.out (below1 wd (.cells #[.int .u32 0] 24 (0, 0))))
 refine hK.out _ _ ⟨S13.out.c3, S13.out.c7, S13.out.h0, S13.out.h1, S13.out.h2, S13.out.h3, S13.out.h4, S13.out.p.a0, S13.out.p.a1, S13.out.p.a2, S13.out.q.a0, S13.out.q.a1, S13.out.q.a2⟩ (fun hHeld => ?_)
 clear hK K
 refine norm_ (a' := ?_) ?_ ?_
 rotate_left
 ·show Act.put _ (some 88) _ = _
  simp only [Act.put, List.setIfInBounds_toArray, List.set_cons_zero, List.set_cons_succ, i64_w, i32_w]
  rfl
 refine one_ (i := 25) (N := some 89) #[tt_,tt_,tt_,tt_,tt_,tt_,tt_,tt_,tt_,tt_,tt_,tt_,tt_,tt_,tt_,tt_,tt_,tt_,tt_,tt_,tt_,tt_,tt_,tt_,tt_,tt_,ff_,ff_,ff_,ff_,ff_,ff_,ff_,ff_,ff_,ff_,ff_,ff_,ff_,ff_,ff_,ff_,ff_,ff_,ff_,ff_,ff_,ff_,ff_,ff_,ff_] rfl rfl (by kernel_rfl) (by decide) (fun K hK => ?_)
 refine goes_ Try.func26 (by kernel_rfl) rfl #[.slice (some az) 1 cz, .slice (some ⟨wd.heap.size, 0, none⟩) 1 1] (by rfl) rfl rfl (by (try simp only [List.map_toArray, List.map_cons, List.map_nil]); rfl) ?_
 with_reducible refine (words_k1 _ S13.out.p.z S13.out.p.cz1 (blk_new wd _)).mono ?_
 rintro e w14 ⟨rfl, hb⟩
 refine ⟨_, rfl, ?_⟩
 have S14 := Aside0.mk (S13.out.below hb)
 have B14 := Aside0.mk (below_step B13.out hb)
 clear hb
 refine hK.out _ _ ⟨S14.out.c3, S14.out.c7, S14.out.h0, S14.out.h1, S14.out.h2, S14.out.h3, S14.out.h4, S14.out.p.a0, S14.out.p.a1, S14.out.p.a2, S14.out.q.a0, S14.out.q.a1, S14.out.q.a2⟩ (fun hHeld => ?_)
 clear hK K
 refine norm_ (a' := ?_) ?_ ?_
 rotate_left
 ·show Act.put _ (some 89) _ = _
  simp only [Act.put, List.setIfInBounds_toArray, List.set_cons_zero, List.set_cons_succ, i64_w, i32_w]
  rfl
 refine pure_ (i := 26) (N := some 90) (v := ?_) (a' := ?_) #[tt_,tt_,tt_,tt_,tt_,tt_,tt_,tt_,tt_,tt_,tt_,tt_,tt_,tt_,tt_,tt_,tt_,tt_,tt_,tt_,tt_,tt_,tt_,tt_,tt_,tt_,tt_,ff_,ff_,ff_,ff_,ff_,ff_,ff_,ff_,ff_,ff_,ff_,ff_,ff_,ff_,ff_,ff_,ff_,ff_,ff_,ff_,ff_,ff_,ff_,ff_] rfl rfl (by kernel_rfl) (fun _ _ _ h => h) (Or.inl ⟨by rfl, ?_⟩) ?_ ?_
 rotate_left
 ·intro w'
  go_simp
  with_reducible rfl
 rotate_left
 ·simp only [Act.put, List.setIfInBounds_toArray, List.set_cons_zero, List.set_cons_succ, i64_w, i32_w]
  rfl
 refine pure_ (i := 27) (N := some 91) (v := ?_) (a' := ?_) #[tt_,tt_,tt_,tt_,tt_,tt_,tt_,tt_,tt_,tt_,tt_,tt_,tt_,tt_,tt_,tt_,tt_,tt_,tt_,tt_,tt_,tt_,tt_,tt_,tt_,tt_,tt_,tt_,ff_,ff_,ff_,ff_,ff_,ff_,ff_,ff_,ff_,ff_,ff_,ff_,ff_,ff_,ff_,ff_,ff_,ff_,ff_,ff_,ff_,ff_,ff_] rfl rfl (by kernel_rfl) (fun _ _ _ h => h) (Or.inl ⟨by rfl, ?_⟩) ?_ ?_
 rotate_left
 ·intro w'
  go_simp
  with_reducible rfl
 rotate_left
 ·simp only [Act.put, List.setIfInBounds_toArray, List.set_cons_zero, List.set_cons_succ, i64_w, i32_w]
  rfl
 refine pure_ (i := 28) (N := some 92) (v := ?_) (a' := ?_) #[tt_,tt_,tt_,tt_,tt_,tt_,tt_,tt_,tt_,tt_,tt_,tt_,tt_,tt_,tt_,tt_,tt_,tt_,tt_,tt_,tt_,tt_,tt_,tt_,tt_,tt_,tt_,tt_,tt_,ff_,ff_,ff_,ff_,ff_,ff_,ff_,ff_,ff_,ff_,ff_,ff_,ff_,ff_,ff_,ff_,ff_,ff_,ff_,ff_,ff_,ff_] rfl rfl (by kernel_rfl) (fun _ _ _ h => h) (Or.inl ⟨by rfl, ?_⟩) ?_ ?_
 rotate_left
 ·intro w'
  go_simp
  with_reducible rfl
 rotate_left
 ·simp only [Act.put, List.setIfInBounds_toArray, List.set_cons_zero, List.set_cons_succ, i64_w, i32_w]
  rfl
 refine pure_ (i := 29) (N := some 93) (v := ?_) (a' := ?_) #[tt_,tt_,tt_,tt_,tt_,tt_,tt_,tt_,tt_,tt_,tt_,tt_,tt_,tt_,tt_,tt_,tt_,tt_,tt_,tt_,tt_,tt_,tt_,tt_,tt_,tt_,tt_,tt_,tt_,tt_,ff_,ff_,ff_,ff_,ff_,ff_,ff_,ff_,ff_,ff_,ff_,ff_,ff_,ff_,ff_,ff_,ff_,ff_,ff_,ff_,ff_] rfl rfl (by kernel_rfl) (fun _ _ _ h => h) (Or.inl ⟨by rfl, ?_⟩) ?_ ?_
 rotate_left
 ·intro w'
  go_simp
  with_reducible rfl
 rotate_left
 ·simp only [Act.put, List.setIfInBounds_toArray, List.set_cons_zero, List.set_cons_succ, i64_w, i32_w]
  rfl
 refine pure_ (i := 33) (N := some 97) (v := ?_) (a' := ?_) #[tt_,tt_,tt_,tt_,tt_,tt_,tt_,tt_,tt_,tt_,tt_,tt_,tt_,tt_,tt_,tt_,tt_,tt_,tt_,tt_,tt_,tt_,tt_,tt_,tt_,tt_,tt_,tt_,tt_,tt_,ff_,ff_,ff_,tt_,ff_,ff_,ff_,ff_,ff_,ff_,ff_,ff_,ff_,ff_,ff_,ff_,ff_,ff_,ff_,ff_,ff_] rfl rfl (by kernel_rfl) (fun _ _ _ h => h) (Or.inl ⟨by rfl, ?_⟩) ?_ ?_
 rotate_left
 ·intro w'
  go_simp
  with_reducible rfl
 rotate_left
 ·simp only [Act.put, List.setIfInBounds_toArray, List.set_cons_zero, List.set_cons_succ, i64_w, i32_w]
  rfl
 refine take_ (i := 30) (N := some 94) (v := ?_) (a' := ?_) #[tt_,tt_,tt_,tt_,tt_,tt_,tt_,tt_,tt_,tt_,tt_,tt_,tt_,tt_,tt_,tt_,tt_,tt_,tt_,tt_,tt_,tt_,tt_,tt_,tt_,tt_,tt_,tt_,tt_,tt_,tt_,ff_,ff_,tt_,ff_,ff_,ff_,ff_,ff_,ff_,ff_,ff_,ff_,ff_,ff_,ff_,ff_,ff_,ff_,ff_,ff_] rfl rfl (by kernel_rfl) (fun _ _ _ h => h) (Or.inl ⟨by rfl, ?_⟩) hHeld ?_ ?_
 rotate_left
 ·rintro w' ⟨s0, s1, s2, s3, s4, s5, s6, s7, s8, s9, s10, s11, s12⟩
  go_simp
  with_reducible rfl
 rotate_left
 ·simp only [Act.put, List.setIfInBounds_toArray, List.set_cons_zero, List.set_cons_succ, i64_w, i32_w]
  rfl
 refine pure_ (i := 31) (N := some 95) (v := ?_) (a' := ?_) #[tt_,tt_,tt_,tt_,tt_,tt_,tt_,tt_,tt_,tt_,tt_,tt_,tt_,tt_,tt_,tt_,tt_,tt_,tt_,tt_,tt_,tt_,tt_,tt_,tt_,tt_,tt_,tt_,tt_,tt_,tt_,tt_,ff_,tt_,ff_,ff_,ff_,ff_,ff_,ff_,ff_,ff_,ff_,ff_,ff_,ff_,ff_,ff_,ff_,ff_,ff_] rfl rfl (by kernel_rfl) (fun _ _ _ h => h) (Or.inl ⟨by rfl, ?_⟩) ?_ ?_
 rotate_left
 ·intro w'
  go_simp
  with_reducible rfl
 rotate_left
 ·simp only [Act.put, List.setIfInBounds_toArray, List.set_cons_zero, List.set_cons_succ, i64_w, i32_w]
  rfl
 refine take_ (i := 32) (N := some 96) (v := ?_) (a' := ?_) #[tt_,tt_,tt_,tt_,tt_,tt_,tt_,tt_,tt_,tt_,tt_,tt_,tt_,tt_,tt_,tt_,tt_,tt_,tt_,tt_,tt_,tt_,tt_,tt_,tt_,tt_,tt_,tt_,tt_,tt_,tt_,tt_,tt_,tt_,ff_,ff_,ff_,ff_,ff_,ff_,ff_,ff_,ff_,ff_,ff_,ff_,ff_,ff_,ff_,ff_,ff_] rfl rfl (by kernel_rfl) (fun _ _ _ h => h) (Or.inl ⟨by rfl, ?_⟩) hHeld ?_ ?_
 rotate_left
 ·rintro w' ⟨s0, s1, s2, s3, s4, s5, s6, s7, s8, s9, s10, s11, s12⟩
  go_simp
  with_reducible rfl
 rotate_left
 ·simp only [Act.put, List.setIfInBounds_toArray, List.set_cons_zero, List.set_cons_succ, i64_w, i32_w]
  rfl
 refine take_ (i := 34) (N := some 98) (v := ?_) (a' := ?_) #[tt_,tt_,tt_,tt_,tt_,tt_,tt_,tt_,tt_,tt_,tt_,tt_,tt_,tt_,tt_,tt_,tt_,tt_,tt_,tt_,tt_,tt_,tt_,tt_,tt_,tt_,tt_,tt_,tt_,tt_,tt_,tt_,tt_,tt_,tt_,ff_,ff_,ff_,ff_,ff_,ff_,ff_,ff_,ff_,ff_,ff_,ff_,ff_,ff_,ff_,ff_] rfl rfl (by kernel_rfl) (fun _ _ _ h => h) (Or.inl ⟨by rfl, ?_⟩) hHeld ?_ ?_
 rotate_left
 ·rintro w' ⟨s0, s1, s2, s3, s4, s5, s6, s7, s8, s9, s10, s11, s12⟩
  go_simp
  with_reducible rfl
 rotate_left
 ·simp only [Act.put, List.setIfInBounds_toArray, List.set_cons_zero, List.set_cons_succ, i64_w, i32_w]
  rfl
 refine pure_ (i := 35) (N := some 99) (v := ?_) (a' := ?_) #[tt_,tt_,tt_,tt_,tt_,tt_,tt_,tt_,tt_,tt_,tt_,tt_,tt_,tt_,tt_,tt_,tt_,tt_,tt_,tt_,tt_,tt_,tt_,tt_,tt_,tt_,tt_,tt_,tt_,tt_,tt_,tt_,tt_,tt_,tt_,tt_,ff_,ff_,ff_,ff_,ff_,ff_,ff_,ff_,ff_,ff_,ff_,ff_,ff_,ff_,ff_] rfl rfl (by kernel_rfl) (fun _ _ _ h => h) (Or.inl ⟨by rfl, ?_⟩) ?_ ?_
 rotate_left
 ·intro w'
  go_simp
  with_reducible rfl
 rotate_left
 ·simp only [Act.put, List.setIfInBounds_toArray, List.set_cons_zero, List.set_cons_succ, i64_w, i32_w]
  rfl
 refine take_ (i := 36) (N := some 100) (v := ?_) (a' := ?_) #[tt_,tt_,tt_,tt_,tt_,tt_,tt_,tt_,tt_,tt_,tt_,tt_,tt_,tt_,tt_,tt_,tt_,tt_,tt_,tt_,tt_,tt_,tt_,tt_,tt_,tt_,tt_,tt_,tt_,tt_,tt_,tt_,tt_,tt_,tt_,tt_,tt_,ff_,ff_,ff_,ff_,ff_,ff_,ff_,ff_,ff_,ff_,ff_,ff_,ff_,ff_] rfl rfl (by kernel_rfl) (fun _ _ _ h => h) (Or.inl ⟨by rfl, ?_⟩) hHeld ?_ ?_
 rotate_left
 ·rintro w' ⟨s0, s1, s2, s3, s4, s5, s6, s7, s8, s9, s10, s11, s12⟩
  go_simp
  with_reducible rfl
 rotate_left
 ·simp only [Act.put, List.setIfInBounds_toArray, List.set_cons_zero, List.set_cons_succ, i64_w, i32_w]
  rfl
 refine one_ (i := 37) (N := some 101) #[tt_,tt_,tt_,tt_,tt_,tt_,tt_,tt_,tt_,tt_,tt_,tt_,tt_,tt_,tt_,tt_,tt_,tt_,tt_,tt_,tt_,tt_,tt_,tt_,tt_,tt_,tt_,tt_,tt_,tt_,tt_,tt_,tt_,tt_,tt_,tt_,tt_,tt_,ff_,ff_,ff_,ff_,ff_,ff_,ff_,ff_,ff_,ff_,ff_,ff_,ff_] rfl rfl (by kernel_rfl) (by decide) (fun K hK => ?_)
 refine goes_ Try.func27 (by kernel_rfl) rfl #[.agg #[.int .i64 1, .int .i64 1, .slice (some ay) 1 cy], .agg #[.int .i64 1, .int .i64 1, .slice (some az) 1 cz]] (by rfl) rfl rfl (by (try simp only [List.map_toArray, List.map_cons, List.map_nil]); rfl) ?_
 with_reducible refine (plane_k1 _ S14.out.q.z S14.out.q.cz1 S14.out.p.z S14.out.p.cz1).mono ?_
 rintro e w15 ⟨rfl, hb⟩
 refine ⟨_, rfl, ?_⟩
 have S15 := Aside0.mk (S14.out.below hb)
 have B15 := Aside0.mk (below_step B14.out hb)
 clear hb
 refine hK.out _ _ ⟨S15.out.c3, S15.out.c7, S15.out.h0, S15.out.h1, S15.out.h2, S15.out.h3, S15.out.h4, S15.out.p.a0, S15.out.p.a1, S15.out.p.a2, S15.out.q.a0, S15.out.q.a1, S15.out.q.a2⟩ (fun hHeld => ?_)
 clear hK K
 refine norm_ (a' := ?_) ?_ ?_
 rotate_left
 ·show Act.put _ (some 101) _ = _
  simp only [Act.put, List.setIfInBounds_toArray, List.set_cons_zero, List.set_cons_succ, i64_w, i32_w]
  rfl
 refine pure_ (i := 38) (N := some 102) (v := ?_) (a' := ?_) #[tt_,tt_,tt_,tt_,tt_,tt_,tt_,tt_,tt_,tt_,tt_,tt_,tt_,tt_,tt_,tt_,tt_,tt_,tt_,tt_,tt_,tt_,tt_,tt_,tt_,tt_,tt_,tt_,tt_,tt_,tt_,tt_,tt_,tt_,tt_,tt_,tt_,tt_,tt_,ff_,ff_,ff_,ff_,ff_,ff_,ff_,ff_,ff_,ff_,ff_,ff_] rfl rfl (by kernel_rfl) (fun _ _ _ h => h) (Or.inl ⟨by rfl, ?_⟩) ?_ ?_
 rotate_left
 ·intro w'
  go_simp
  with_reducible rfl
 rotate_left
 ·simp only [Act.put, List.setIfInBounds_toArray, List.set_cons_zero, List.set_cons_succ, i64_w, i32_w]
  rfl
 refine pure_ (i := 39) (N := some 103) (v := ?_) (a' := ?_) #[tt_,tt_,tt_,tt_,tt_,tt_,tt_,tt_,tt_,tt_,tt_,tt_,tt_,tt_,tt_,tt_,tt_,tt_,tt_,tt_,tt_,tt_,tt_,tt_,tt_,tt_,tt_,tt_,tt_,tt_,tt_,tt_,tt_,tt_,tt_,tt_,tt_,tt_,tt_,tt_,ff_,ff_,ff_,ff_,ff_,ff_,ff_,ff_,ff_,ff_,ff_] rfl rfl (by kernel_rfl) (fun _ _ _ h => h) (Or.inl ⟨by rfl, ?_⟩) ?_ ?_
 rotate_left
 ·intro w'
  go_simp
  with_reducible rfl
 rotate_left
 ·simp only [Act.put, List.setIfInBounds_toArray, List.set_cons_zero, List.set_cons_succ, i64_w, i32_w]
  rfl
 refine pure_ (i := 40) (N := some 104) (v := ?_) (a' := ?_) #[tt_,tt_,tt_,tt_,tt_,tt_,tt_,tt_,tt_,tt_,tt_,tt_,tt_,tt_,tt_,tt_,tt_,tt_,tt_,tt_,tt_,tt_,tt_,tt_,tt_,tt_,tt_,tt_,tt_,tt_,tt_,tt_,tt_,tt_,tt_,tt_,tt_,tt_,tt_,tt_,tt_,ff_,ff_,ff_,ff_,ff_,ff_,ff_,ff_,ff_,ff_] rfl rfl (by kernel_rfl) (fun _ _ _ h => h) (Or.inl ⟨by rfl, ?_⟩) ?_ ?_
 rotate_left
 ·intro w'
  go_simp
  with_reducible rfl
 rotate_left
 ·simp only [Act.put, List.setIfInBounds_toArray, List.set_cons_zero, List.set_cons_succ, i64_w, i32_w]
  rfl
 refine pure_ (i := 41) (N := some 105) (v := ?_) (a' := ?_) #[tt_,tt_,tt_,tt_,tt_,tt_,tt_,tt_,tt_,tt_,tt_,tt_,tt_,tt_,tt_,tt_,tt_,tt_,tt_,tt_,tt_,tt_,tt_,tt_,tt_,tt_,tt_,tt_,tt_,tt_,tt_,tt_,tt_,tt_,tt_,tt_,tt_,tt_,tt_,tt_,tt_,tt_,ff_,ff_,ff_,ff_,ff_,ff_,ff_,ff_,ff_] rfl rfl (by kernel_rfl) (fun _ _ _ h => h) (Or.inl ⟨by rfl, ?_⟩) ?_ ?_
 rotate_left
 ·intro w'
  go_simp
  with_reducible rfl
 rotate_left
 ·simp only [Act.put, List.setIfInBounds_toArray, List.set_cons_zero, List.set_cons_succ, i64_w, i32_w]
  rfl
 refine one_ (i := 42) (N := some 106) #[tt_,tt_,tt_,tt_,tt_,tt_,tt_,tt_,tt_,tt_,tt_,tt_,tt_,tt_,tt_,tt_,tt_,tt_,tt_,tt_,tt_,tt_,tt_,tt_,tt_,tt_,tt_,tt_,tt_,tt_,tt_,tt_,tt_,tt_,tt_,tt_,tt_,tt_,tt_,tt_,tt_,tt_,tt_,ff_,ff_,ff_,ff_,ff_,ff_,ff_,ff_] rfl rfl (by kernel_rfl) (by decide) (fun K hK => ?_)
 refine value_ (w1 := ?_) (v := ?_) (by rfl) rfl ?_ ?_
 rotate_left 2
 ·go_simp
  constructor
  ·rfl
  ·rfl
 have S16 := Aside0.mk (S15.out.below (below1 w15 (.cells #[.int .i64 0] 3 (0, 0))))
 have B16 := Aside0.mk (below_step B15.out (below1 w15 (.cells #[.int .i64 0] 3 (0, 0))))
 refine hK.out _ _ ⟨S16.out.c3, S16.out.c7, S16.out.h0, S16.out.h1, S16.out.h2, S16.out.h3, S16.out.h4, S16.out.p.a0, S16.out.p.a1, S16.out.p.a2, S16.out.q.a0, S16.out.q.a1, S16.out.q.a2⟩ (fun hHeld => ?_)
 clear hK K
 refine norm_ (a' := ?_) ?_ ?_
 rotate_left
 ·show Act.put _ (some 106) _ = _
  simp only [Act.put, List.setIfInBounds_toArray, List.set_cons_zero, List.set_cons_succ, i64_w, i32_w]
  rfl
 refine one_ (i := 43) (N := some 107) #[tt_,tt_,tt_,tt_,tt_,tt_,tt_,tt_,tt_,tt_,tt_,tt_,tt_,tt_,tt_,tt_,tt_,tt_,tt_,tt_,tt_,tt_,tt_,tt_,tt_,tt_,tt_,tt_,tt_,tt_,tt_,tt_,tt_,tt_,tt_,tt_,tt_,tt_,tt_,tt_,tt_,tt_,tt_,tt_,ff_,ff_,ff_,ff_,ff_,ff_,ff_] rfl rfl (by kernel_rfl) (by decide) (fun K hK => ?_)
 refine goes_ Try.func41 (by kernel_rfl) rfl #[.slice (some ar) 1 cr, .slice (some ⟨w15.heap.size, 0, none⟩) 1 1] (by rfl) rfl rfl (by (try simp only [List.map_toArray, List.map_cons, List.map_nil]); rfl) ?_
 with_reducible refine (ints_k1 _ S16.out.r S16.out.r1 (blk_new w15 _)).mono ?_
 rintro e w17 ⟨rfl, hb⟩
 refine ⟨_, rfl, ?_⟩
 have S17 := Aside0.mk (S16.out.below hb)
 have B17 := Aside0.mk (below_step B16.out hb)
 clear hb
 refine hK.out _ _ ⟨S17.out.c3, S17.out.c7, S17.out.h0, S17.out.h1, S17.out.h2, S17.out.h3, S17.out.h4, S17.out.p.a0, S17.out.p.a1, S17.out.p.a2, S17.out.q.a0, S17.out.q.a1, S17.out.q.a2⟩ (fun hHeld => ?_)
 clear hK K
 refine norm_ (a' := ?_) ?_ ?_
 rotate_left
 ·show Act.put _ (some 107) _ = _
  simp only [Act.put, List.setIfInBounds_toArray, List.set_cons_zero, List.set_cons_succ, i64_w, i32_w]
  rfl
 refine pure_ (i := 44) (N := some 108) (v := ?_) (a' := ?_) #[tt_,tt_,tt_,tt_,tt_,tt_,tt_,tt_,tt_,tt_,tt_,tt_,tt_,tt_,tt_,tt_,tt_,tt_,tt_,tt_,tt_,tt_,tt_,tt_,tt_,tt_,tt_,tt_,tt_,tt_,tt_,tt_,tt_,tt_,tt_,tt_,tt_,tt_,tt_,tt_,tt_,tt_,tt_,tt_,tt_,ff_,ff_,ff_,ff_,ff_,ff_] rfl rfl (by kernel_rfl) (fun _ _ _ h => h) (Or.inl ⟨by rfl, ?_⟩) ?_ ?_
 rotate_left
 ·intro w'
  go_simp
  with_reducible rfl
 rotate_left
 ·simp only [Act.put, List.setIfInBounds_toArray, List.set_cons_zero, List.set_cons_succ, i64_w, i32_w]
  rfl
 refine pure_ (i := 45) (N := some 109) (v := ?_) (a' := ?_) #[tt_,tt_,tt_,tt_,tt_,tt_,tt_,tt_,tt_,tt_,tt_,tt_,tt_,tt_,tt_,tt_,tt_,tt_,tt_,tt_,tt_,tt_,tt_,tt_,tt_,tt_,tt_,tt_,tt_,tt_,tt_,tt_,tt_,tt_,tt_,tt_,tt_,tt_,tt_,tt_,tt_,tt_,tt_,tt_,tt_,tt_,ff_,ff_,ff_,ff_,ff_] rfl rfl (by kernel_rfl) (fun _ _ _ h => h) (Or.inl ⟨by rfl, ?_⟩) ?_ ?_
 rotate_left
 ·intro w'
  go_simp
  with_reducible rfl
 rotate_left
 ·simp only [Act.put, List.setIfInBounds_toArray, List.set_cons_zero, List.set_cons_succ, i64_w, i32_w]
  rfl
 refine pure_ (i := 46) (N := some 110) (v := ?_) (a' := ?_) #[tt_,tt_,tt_,tt_,tt_,tt_,tt_,tt_,tt_,tt_,tt_,tt_,tt_,tt_,tt_,tt_,tt_,tt_,tt_,tt_,tt_,tt_,tt_,tt_,tt_,tt_,tt_,tt_,tt_,tt_,tt_,tt_,tt_,tt_,tt_,tt_,tt_,tt_,tt_,tt_,tt_,tt_,tt_,tt_,tt_,tt_,tt_,ff_,ff_,ff_,ff_] rfl rfl (by kernel_rfl) (fun _ _ _ h => h) (Or.inl ⟨by rfl, ?_⟩) ?_ ?_
 rotate_left
 ·intro w'
  go_simp
  with_reducible rfl
 rotate_left
 ·simp only [Act.put, List.setIfInBounds_toArray, List.set_cons_zero, List.set_cons_succ, i64_w, i32_w]
  rfl
 refine pure_ (i := 48) (N := some 112) (v := ?_) (a' := ?_) #[tt_,tt_,tt_,tt_,tt_,tt_,tt_,tt_,tt_,tt_,tt_,tt_,tt_,tt_,tt_,tt_,tt_,tt_,tt_,tt_,tt_,tt_,tt_,tt_,tt_,tt_,tt_,tt_,tt_,tt_,tt_,tt_,tt_,tt_,tt_,tt_,tt_,tt_,tt_,tt_,tt_,tt_,tt_,tt_,tt_,tt_,tt_,ff_,tt_,ff_,ff_] rfl rfl (by kernel_rfl) (fun _ _ _ h => h) (Or.inl ⟨by rfl, ?_⟩) ?_ ?_
 rotate_left
 ·intro w'
  go_simp
  with_reducible rfl
 rotate_left
 ·simp only [Act.put, List.setIfInBounds_toArray, List.set_cons_zero, List.set_cons_succ, i64_w, i32_w]
  rfl
 refine take_ (i := 47) (N := some 111) (v := ?_) (a' := ?_) #[tt_,tt_,tt_,tt_,tt_,tt_,tt_,tt_,tt_,tt_,tt_,tt_,tt_,tt_,tt_,tt_,tt_,tt_,tt_,tt_,tt_,tt_,tt_,tt_,tt_,tt_,tt_,tt_,tt_,tt_,tt_,tt_,tt_,tt_,tt_,tt_,tt_,tt_,tt_,tt_,tt_,tt_,tt_,tt_,tt_,tt_,tt_,tt_,tt_,ff_,ff_] rfl rfl (by kernel_rfl) (fun _ _ _ h => h) (Or.inl ⟨by rfl, ?_⟩) hHeld ?_ ?_
 rotate_left
 ·rintro w' ⟨s0, s1, s2, s3, s4, s5, s6, s7, s8, s9, s10, s11, s12⟩
  go_simp
  with_reducible rfl
 rotate_left
 ·simp only [Act.put, List.setIfInBounds_toArray, List.set_cons_zero, List.set_cons_succ, i64_w, i32_w]
  rfl
 refine pure_ (i := 49) (N := some 113) (v := ?_) (a' := ?_) #[tt_,tt_,tt_,tt_,tt_,tt_,tt_,tt_,tt_,tt_,tt_,tt_,tt_,tt_,tt_,tt_,tt_,tt_,tt_,tt_,tt_,tt_,tt_,tt_,tt_,tt_,tt_,tt_,tt_,tt_,tt_,tt_,tt_,tt_,tt_,tt_,tt_,tt_,tt_,tt_,tt_,tt_,tt_,tt_,tt_,tt_,tt_,tt_,tt_,tt_,ff_] rfl rfl (by kernel_rfl) (fun _ _ _ h => h) (Or.inl ⟨by rfl, ?_⟩) ?_ ?_
 rotate_left
 ·intro w'
  go_simp
  with_reducible rfl
 rotate_left
 ·simp only [Act.put, List.setIfInBounds_toArray, List.set_cons_zero, List.set_cons_succ, i64_w, i32_w]
  rfl
 refine pure_ (i := 50) (N := some 114) (v := ?_) (a' := ?_) #[tt_,tt_,tt_,tt_,tt_,tt_,tt_,tt_,tt_,tt_,tt_,tt_,tt_,tt_,tt_,tt_,tt_,tt_,tt_,tt_,tt_,tt_,tt_,tt_,tt_,tt_,tt_,tt_,tt_,tt_,tt_,tt_,tt_,tt_,tt_,tt_,tt_,tt_,tt_,tt_,tt_,tt_,tt_,tt_,tt_,tt_,tt_,tt_,tt_,tt_,tt_] rfl rfl (by kernel_rfl) (fun _ _ _ h => h) (Or.inl ⟨by rfl, ?_⟩) ?_ ?_
 rotate_left
 ·intro w'
  go_simp
  with_reducible rfl
 rotate_left
 ·simp only [Act.put, List.setIfInBounds_toArray, List.set_cons_zero, List.set_cons_succ, i64_w, i32_w]
  rfl
 refine done_ (by kernel_rfl) ?_
 clear hq60
 have K17 := Aside0.mk S17.out.b
 clear S12 S13 S14 S15 S16 S17 B12 B13 B14 B15 B16 hHeld w00 w01
 go_upto_region 10 with (go_at_call 22; with_reducible refine (Rests_k w17).mono ?_; rintro e w18 ⟨ax, cx, rfl, hR, hx, hb⟩; have X18 := Aside0.mk hR; have HX := Aside0.mk hx; have K18 := Aside0.mk (K17.out.below hb); have B18 := Aside0.mk (below_step B17.out hb); clear hR hx hb)
 clear K17 B17
 go_upto_region 11 with (first | (go_at_call 24; with_reducible refine (Plane_k w18).mono ?_; rintro e w19 ⟨as_, cs, rfl, hR, hx, hb⟩; have Y19 := Aside0.mk hR; have HY := Aside0.mk hx; have X19 := Aside0.mk (Kd.C_below X18.out hb); have K19 := Aside0.mk (K18.out.below hb); have B19 := Aside0.mk (below_step B18.out hb); clear hR hx hb) | ((with_reducible refine gate_dst (N := 12) rfl ?_); refine box_event ?hg (N := 12) ?hd (cs := #[.int .i64 0, .int .i64 0, .slice none 0 0]) (t := 31) ?hr ?_; (case hd => rfl); (case hg => rfl); (case hr => first | (go_simp; done) | (go_simp; rfl)); intro g12 hg_ w20 hm_ hb_; have X_ := Aside0.mk (put3 (x := .int .i64 2) (y := .int .i64 1) (z := .slice (some as_) 2 cs) hm_ rfl); have HB_ := Aside0.mk ((show Below w19.heap.size w19 w20 from hb_).trans (X_.out.2.2 _ (by rw [hg_]; exact Nat.le_refl _))); have K21 := Aside0.mk (K19.out.below HB_.out); have X21 := Aside0.mk (Kd.C_below X19.out HB_.out); have Y21 := Aside0.mk (Kd.C_below Y19.out HB_.out); have B21 := Aside0.mk (below_step B19.out HB_.out); have M_ := Aside0.mk hm_; have o0 := (blk_cell M_.out 0).trans rfl; have o1 := (blk_cell M_.out 1).trans rfl; have o2 := (blk_cell M_.out 2).trans rfl; have fo0 := blk_frozen M_.out 0; have fo1 := blk_frozen M_.out 1; have fo2 := blk_frozen M_.out 2; have G21 := Aside0.mk (X_.out.1); clear hm_ hb_ hg_ X_ HB_ M_))
 generalize ((w20.setCell ⟨g12, 0, none⟩ (.int .i64 2)).setCell ⟨g12, 1, none⟩ (.int .i64 1)).setCell ⟨g12, 2, none⟩ (.slice (some as_) 2 cs) = w21 at *
 clear o0 o1 o2 fo0 fo1 fo2 K18 B18 X18 K19 B19 X19 Y19
 have k3 : 24 ≤ c := by omega
 have k4 : 11 ≤ c := by omega
 go_upto_region 12 with (first | (go_at_call 36; with_reducible refine (Dec_n _ K21.out (n := 24) (by decide) kB_24.1).mono ?_; rintro e w22 ⟨rfl, hb⟩; have Y22 := Aside0.mk (Kd.C_below Y21.out hb); have X22 := Aside0.mk (Kd.C_below X21.out hb); have K22 := Aside0.mk (K21.out.below hb); have B22 := Aside0.mk (below_step B21.out hb); have G22 := Aside0.mk (blk_below G21.out hb); clear hb) | ((with_reducible refine gate_dst (N := 14) rfl ?_); refine box_event ?hg (N := 14) ?hd (cs := #[.int .i64 0, .slice none 0 0]) (t := 47) ?hr ?_; (case hd => rfl); (case hg => rfl); (case hr => first | (go_simp; done) | (go_simp; rfl)); intro g14 hg_ w23 hm_ hb_; have X_ := Aside0.mk (put2 (x := .int .i64 0) (y := .slice none 0 0) hm_ rfl); have HB_ := Aside0.mk ((show Below w22.heap.size w22 w23 from hb_).trans (X_.out.2.2 _ (by rw [hg_]; exact Nat.le_refl _))); have K24 := Aside0.mk (K22.out.below HB_.out); have X24 := Aside0.mk (Kd.C_below X22.out HB_.out); have Y24 := Aside0.mk (Kd.C_below Y22.out HB_.out); have G24 := Aside0.mk (blk_below G22.out HB_.out); have B24 := Aside0.mk (below_step B22.out HB_.out); have M_ := Aside0.mk hm_; have o0 := (blk_cell M_.out 0).trans rfl; have o1 := (blk_cell M_.out 1).trans rfl; have fo0 := blk_frozen M_.out 0; have fo1 := blk_frozen M_.out 1; clear hm_ hb_ hg_ X_ HB_ M_))
 generalize (w23.setCell ⟨g14, 0, none⟩ (.int .i64 0)).setCell ⟨g14, 1, none⟩ (.slice none 0 0) = w24 at *
 clear o0 o1 fo0 fo1 K21 B21 X21 Y21 G21 K22 B22 X22 Y22 G22
 go_upto_region 13 with (first | (go_at_call 36; with_reducible refine (Dec_n _ K24.out (n := 11) (by decide) kB_24.2).mono ?_; rintro e w25 ⟨rfl, hb⟩; have Y25 := Aside0.mk (Kd.C_below Y24.out hb); have X25 := Aside0.mk (Kd.C_below X24.out hb); have B25 := Aside0.mk (below_step B24.out hb); have G25 := Aside0.mk (blk_below G24.out hb); clear hb) | ((with_reducible refine gate_dst (N := 16) rfl ?_); refine box_event ?hg (N := 16) ?hd (cs := #[.int .i64 0, .slice none 0 0]) (t := 47) ?hr ?_; (case hd => rfl); (case hg => rfl); (case hr => first | (go_simp; done) | (go_simp; rfl)); intro g16 hg_ w26 hm_ hb_; have X_ := Aside0.mk (put2 (x := .int .i64 0) (y := .slice none 0 0) hm_ rfl); have HB_ := Aside0.mk ((show Below w25.heap.size w25 w26 from hb_).trans (X_.out.2.2 _ (by rw [hg_]; exact Nat.le_refl _))); have X27 := Aside0.mk (Kd.C_below X25.out HB_.out); have Y27 := Aside0.mk (Kd.C_below Y25.out HB_.out); have G27 := Aside0.mk (blk_below G25.out HB_.out); have B27 := Aside0.mk (below_step B25.out HB_.out); have M_ := Aside0.mk hm_; have o0 := (blk_cell M_.out 0).trans rfl; have o1 := (blk_cell M_.out 1).trans rfl; have fo0 := blk_frozen M_.out 0; have fo1 := blk_frozen M_.out 1; clear hm_ hb_ hg_ X_ HB_ M_))
 generalize (w26.setCell ⟨g16, 0, none⟩ (.int .i64 0)).setCell ⟨g16, 1, none⟩ (.slice none 0 0) = w27 at *
 clear o0 o1 fo0 fo1 B24 X24 Y24 G24 B25 X25 Y25 G25 K24
 have z2 := (blk_cell G27.out 2).trans rfl
 have kc := fun (w : World) (C : Array Value) (n c : Nat) => Lib.run_convert_bytes_const (P := Try.prog) w 23 5 C n c Try.underlying23 Try.underlying5
 go_wp2_with (first | (go_at_call 26; with_reducible refine (words_ka w27 X27.out HX.out).mono ?_; rintro e w28 ⟨rfl, hb⟩; have Y28 := Aside0.mk (Kd.C_below Y27.out hb); have G28 := Aside0.mk (blk_below G27.out hb); have B28 := Aside0.mk (below_step B27.out hb); have z2 := (blk_cell G28.out 2).trans rfl; clear hb) |
  (go_at_call 26; with_reducible refine (words_kb w28 Y28.out HY.out).mono ?_; rintro e w29 ⟨rfl, hb⟩; have B29 := Aside0.mk (below_step B28.out hb); clear hb) |
  (go_at_call 16; with_reducible refine (Sum_k w29).mono ?_; rintro e w30 ⟨rfl, hb⟩; have B30 := Aside0.mk (below_step B29.out hb); clear hb) |
  (go_at_call 19; with_reducible refine (Guess_k1 w30).mono ?_; rintro e w31 ⟨rfl, hb⟩; have B31 := Aside0.mk (below_step B30.out hb); clear hb) |
  (go_at_call 19; with_reducible refine (Guess_k2 w31).mono ?_; rintro e w32 ⟨rfl, hb⟩; have B32 := Aside0.mk (below_step B31.out hb); clear hb) |
  (go_at_call 19; with_reducible refine (Guess_k3 w32).mono ?_; rintro e w33 ⟨rfl, hb⟩; have B33 := Aside0.mk (below_step B32.out hb); clear hb))
 go_ret
 exact ⟨rfl, B33.out⟩
end Go.Proofs.Ytbbebhdcfopmmaa.A
end
section
set_option linter.unusedVariables false
set_option linter.unusedSimpArgs false
namespace Go.Proofs.Ytbbebhdcfopmmaa.A
open Go.RowKit Go.Proofs.YtbbebhdcfopmmaaW.PrintWords Go.Proofs.YtbbebhdcfopmmaaW.PrintLast Go.Proofs.YtbbebhdcfopmmaaW.PrintMore Go.Proofs.Ytbbebhdcfopmmaa.PCodecNames

theorem drewN_below {w w' : World} (h : ∃ m, w' = w.drewN m) : Below w.heap.size w w' := by
 obtain ⟨m, rfl⟩ := h
 exact pw_below_drewN (Below.refl _ _) m


set_option maxHeartbeats 4000000 in
set_option maxRecDepth 100000 in
theorem rguess_calls (W i n : Nat) (A : Option Addr) (cap : Nat) (xs : List Nat) (w : World) (hn : xs.length = n) (hC : (nat .u32).C w A n xs) (hx : ∀ i, gt xs i < 4294967296) (hW : 0 < W) (hWl : W < 4611686018427387904) (hi : i ≤ n) (hl : n < 4611686018427387904) :
    Calls Try.prog 55 #[.int .i64 (W : Int), .slice A n cap, .int .i64 (i : Int)] w fun e w' => e = .returned (.int .u32 ((guessN xs W i : Nat) : Int)) ∧ ∃ m, w' = w.drewN m := by
 obtain ⟨z, hz⟩ : ∃ z, z = guessN xs W i := ⟨_, rfl⟩
 have HZ := Aside0.mk hz
 rw [← hz]
 clear hz
 have HX := Aside0.mk hx
 obtain ⟨q, hq⟩ : ∃ q, q = i / W := ⟨_, rfl⟩
 obtain ⟨r, hr⟩ : ∃ r, r = i % W := ⟨_, rfl⟩
 have hpi : ((i : Int) / (W : Int)) = (q : Int) := by rw [hq]; exact (Int.natCast_ediv _ _).symm
 have hri : ((i : Int) % (W : Int)) = (r : Int) := by rw [hr]; exact (Int.natCast_emod _ _).symm
 have hql : q ≤ i := by rw [hq]; exact Nat.div_le_self _ _
 have hqw : wrap64 (q : Int) = (q : Int) := w64 (n := (q : Int)) (by omega) (by omega)
 have WPI := Aside0.mk (show wrap64 ((i : Int) / (W : Int)) = (q : Int) by rw [hpi]; exact hqw)
 have WRI := Aside0.mk hri
 have HQ := Aside0.mk hq
 have HR := Aside0.mk hr
 have hW1 : 1 ≤ W := hW
 have hqp : 0 < q → W ≤ i := fun h => by
  rcases Nat.lt_or_ge i W with h1 | h1
  ·rw [hq, Nat.div_eq_of_lt h1] at h; exact absurd h (by decide)
  ·exact h1
 clear hpi hqw hri
 by_cases h0 : i = 0
 ·have HZ2 : Aside0 (z = 0) := ⟨by rw [HZ.out]; unfold guessN; rw [if_pos h0]⟩
  have t0 : (i == 0) = true := by rw [beq_iff_eq]; exact h0
  have t0' : ((i : Int) == 0) = true := by rw [beq_iff_eq]; omega
  clear h0 hq hr hqp hi hC hx
  go_enter Try.func55, Try.ntmps55
  go_wp2
  go_quiet (fail)
  simp only [WPI.out, WRI.out]
  go_wp2
  go_ret
  exact ⟨by rw [HZ2.out]; rfl, nq, rfl⟩
 have t0 : (i == 0) = false := by rw [beq_eq_false_iff_ne]; exact h0
 have t0' : ((i : Int) == 0) = false := by rw [beq_eq_false_iff_ne]; omega
 obtain ⟨i1, hi1⟩ : ∃ j, j = i - 1 := ⟨_, rfl⟩
 have e1 : (i : Int) - 1 = (i1 : Int) := by omega
 obtain ⟨ad, rfl, c1⟩ := C_nat hC i1 (by omega)
 have l1 : i1 < n := by omega
 have i1a : ((i1 : Int) < (n : Int)) = True := eq_true (by omega)
 have i1b : (i1 < n) = True := eq_true l1
 obtain ⟨g1, hg1⟩ : ∃ g, g = gt xs i1 := ⟨_, rfl⟩
 rw [← hg1] at c1
 have HG1 := Aside0.mk hg1
 have G1L : Aside0 (g1 < 4294967296) := ⟨by rw [hg1]; exact hx _⟩
 by_cases hq0 : q = 0
 ·have HZ2 : Aside0 (z = g1) := ⟨by rw [HZ.out]; unfold guessN; rw [if_neg h0, if_pos (by rw [← hq]; exact hq0), hg1, hi1]⟩
  have t1 : (q == 0) = true := by rw [beq_iff_eq]; exact hq0
  have t1' : ((q : Int) == 0) = true := by rw [beq_iff_eq]; omega
  clear h0 hq0 hq hr hqp hC hx hi1 hg1
  go_enter Try.func55, Try.ntmps55
  go_wp2
  go_quiet (fail)
  simp only [WPI.out, WRI.out]
  go_wp2
  go_ret
  exact ⟨by rw [HZ2.out]; rfl, nq, rfl⟩
 have t1 : (q == 0) = false := by rw [beq_eq_false_iff_ne]; exact hq0
 have t1' : ((q : Int) == 0) = false := by rw [beq_eq_false_iff_ne]; omega
 have hWi : W ≤ i := hqp (by omega)
 obtain ⟨i2, hi2⟩ : ∃ j, j = i - W := ⟨_, rfl⟩
 have e2 : (i : Int) - (W : Int) = (i2 : Int) := by omega
 obtain ⟨ad', had, c2⟩ := C_nat hC i2 (by omega)
 injection had with had
 subst had
 have l2 : i2 < n := by omega
 have i2a : ((i2 : Int) < (n : Int)) = True := eq_true (by omega)
 have i2b : (i2 < n) = True := eq_true l2
 obtain ⟨g2, hg2⟩ : ∃ g, g = gt xs i2 := ⟨_, rfl⟩
 rw [← hg2] at c2
 have G2L : Aside0 (g2 < 4294967296) := ⟨by rw [hg2]; exact hx _⟩
 by_cases hr0 : r = 0
 ·have HZ2 : Aside0 (z = g2) := ⟨by rw [HZ.out]; unfold guessN; rw [if_neg h0, if_neg (by rw [← hq]; exact hq0), if_pos (by rw [← hr]; exact hr0), hg2, hi2]⟩
  have t2 : (r == 0) = true := by rw [beq_iff_eq]; exact hr0
  have t2' : ((r : Int) == 0) = true := by rw [beq_iff_eq]; omega
  clear h0 hq0 hr0 hq hr hqp hC hx hi1 hg1 hi2 hg2 e1 c1 i1a i1b l1
  go_enter Try.func55, Try.ntmps55
  go_wp2
  go_quiet (fail)
  simp only [WPI.out, WRI.out]
  go_wp2
  go_ret
  exact ⟨by rw [HZ2.out]; rfl, nq, rfl⟩
 have t2 : (r == 0) = false := by rw [beq_eq_false_iff_ne]; exact hr0
 have t2' : ((r : Int) == 0) = false := by rw [beq_eq_false_iff_ne]; omega
 have hr1 : r ≤ i := by rw [hr]; exact Nat.mod_le _ _
 have hWi2 : W + 1 ≤ i := by
  rcases Nat.lt_or_ge W i with h | h
  ·omega
  ·have : i = W := by omega
   rw [this, Nat.mod_self] at hr; exact absurd hr hr0
 obtain ⟨i3, hi3⟩ : ∃ j, j = i - W - 1 := ⟨_, rfl⟩
 have e3 : (i2 : Int) - 1 = (i3 : Int) := by omega
 obtain ⟨ad', had, c3⟩ := C_nat hC i3 (by omega)
 injection had with had
 subst had
 have l3 : i3 < n := by omega
 have i3a : ((i3 : Int) < (n : Int)) = True := eq_true (by omega)
 have i3b : (i3 < n) = True := eq_true l3
 obtain ⟨g3, hg3⟩ : ∃ g, g = gt xs i3 := ⟨_, rfl⟩
 rw [← hg3] at c3
 have G3L : Aside0 (g3 < 4294967296) := ⟨by rw [hg3]; exact hx _⟩
 have HZ2 : Aside0 (guess g1 g2 g3 = z) := ⟨by rw [HZ.out]; unfold guessN; rw [if_neg h0, if_neg (by rw [← hq]; exact hq0), if_neg (by rw [← hr]; exact hr0), hg1, hg2, hg3, hi1, hi2, hi3]⟩
 have w1 := wrapI e1 (show i1 < 4611686018427387904 by omega)
 have w2 := wrapI e2 (show i2 < 4611686018427387904 by omega)
 have w3 := wrapI e3 (show i3 < 4611686018427387904 by omega)
 clear h0 hq0 hr0 hq hr hqp hC hx hi1 hg1 hi2 hg2 hi3 hg3 e1 e2 e3 hr1 hWi2 hWi hql hi
 go_enter Try.func55, Try.ntmps55
 go_wp2
 go_quiet (fail)
 obtain ⟨wd, hwd⟩ : ∃ wd, w.drewN nq = wd := ⟨_, rfl⟩
 simp only [WPI.out, WRI.out, hwd]
 replace c1 := cell_at hwd c1
 replace c2 := cell_at hwd c2
 replace c3 := cell_at hwd c3
 have B0 := Aside0.mk hwd.symm
 clear hwd
 go_wp2
 go_quiet ((go_at_call 20; exact Calls.quiet_of_same ((rGuess_calls g1 g2 g3 _ G1L.out G2L.out G3L.out).mono fun _ _ h => ⟨h.1, h.2.symm⟩)))
 simp only [HZ2.out]
 go_wp2
 go_ret
 exact ⟨rfl, by rw [B0.out]; exact ⟨_, World.drewN_drewN _ _ _⟩⟩

set_option maxHeartbeats 4000000 in
set_option maxRecDepth 100000 in
theorem rRests_bad (x y : Int) (A : Option Addr) (n cap : Nat) (w : World) (hl : n < 4611686018427387904) (hc : checkE x y n ≠ 0) :
    Calls Try.prog 23 #[.agg #[.int .i64 x, .int .i64 y, .slice A n cap]] w fun e w' => e = .returned (.tuple #[.slice none 0 0, .int .i64 ((checkE x y n : Nat) : Int)]) ∧ Below w.heap.size w w' := by
 have hu31 := Try.underlying31
 obtain ⟨z, hz⟩ : ∃ z, checkE x y n = z := ⟨_, rfl⟩
 have HZ := Aside0.mk hz
 rw [hz] at hc ⊢
 have t1 : ((z : Int) != 0) = true := by rw [bne_iff_ne]; omega
 have t2 : (z != 0) = true := by rw [bne_iff_ne]; exact hc
 clear hz hc
 go_enter Try.func23, Try.ntmps23
 go_wp2_with (first | ((with_reducible refine gate_dst (N := 1) rfl ?_); refine box_event ?hg (N := 1) ?hd (cs := #[.int .i64 x, .int .i64 y, .slice A n cap]) (t := 31) ?hr ?_; (case hd => rfl); (case hg => rfl); (case hr => first | (go_simp; done) | (go_simp; rfl)); intro gP hg_ w1 hm_ hb_; have P1 := Aside0.mk (hm_); have B1 := Aside0.mk (hb_); have p0 := (blk_cell P1.out 0).trans rfl; have p1 := (blk_cell P1.out 1).trans rfl; have p2 := (blk_cell P1.out 2).trans rfl; clear hm_ hb_ hg_) | (go_at_call 54; with_reducible refine (rCheck_calls x y A n cap _ hl).mono ?_; rw [HZ.out]; rintro e w2 ⟨rfl, hb⟩; have B2 := Aside0.mk (below_step B1.out hb); clear hb))
 go_ret2
 exact ⟨rfl, B2.out⟩
set_option maxHeartbeats 8000000 in
set_option maxRecDepth 100000 in
theorem rRests_ok (W Ht : Nat) (A : Option Addr) (n cap : Nat) (xs : List Nat) (w : World) (hp : (Pl.mk W Ht xs).ok) (hn : xs.length = n) (hC : (nat .u32).C w A n xs) :
    Calls Try.prog 23 #[.agg #[.int .i64 (W : Int), .int .i64 (Ht : Int), .slice A n cap]] w fun e w' => ∃ v, e = .returned (.tuple #[v, .int .i64 0]) ∧ (nat .u32).R 24 w' w.heap.size (fun _ => True) v (restsN xs W) ∧ Below w.heap.size w w' := by
 have hu31 := Try.underlying31
 obtain ⟨p1, p2, p3, p4, p5, p6, p7⟩ := hp
 have p1 : 0 < W := p1
 have p3 : W ≤ 1024 := p3
 have p5 : W * Ht ≤ 65536 := p5
 have p6 : xs.length = W * Ht := p6
 have hl : n ≤ 65536 := by omega
 have HCE : Aside0 (checkE (W : Int) (Ht : Int) n = 0) := ⟨by rw [← hn]; exact Pl.ok.check0 (p := ⟨W, Ht, xs⟩) ⟨p1, p2, p3, p4, p5, p6, p7⟩⟩
 have HX := Aside0.mk p7
 have HN := Aside0.mk hn
 have HC := Aside0.mk hC
 have HW : Aside0 (0 < W ∧ W ≤ 1024) := ⟨⟨p1, p3⟩⟩
 have HRN : Aside0 (restsN xs W = restsTo xs W n) := ⟨by unfold restsN; rw [hn]⟩
 have HL : Aside0 (n < 4611686018427387904) := ⟨by omega⟩
 have HL2 := Aside0.mk hl
 rw [HRN.out]
 clear p1 p2 p3 p4 p5 p6 p7 hn hC hl
 go_enter Try.func23, Try.ntmps23
 go_wp2_with (first | ((with_reducible refine gate_dst (N := 1) rfl ?_); refine box_event ?hg (N := 1) ?hd (cs := #[.int .i64 (W : Int), .int .i64 (Ht : Int), .slice A n cap]) (t := 31) ?hr ?_; (case hd => rfl); (case hg => rfl); (case hr => first | (go_simp; done) | (go_simp; rfl)); intro gP hg_ w1 hm_ hb_; have P1 := Aside0.mk (hm_); have B1 := Aside0.mk (hb_); have p0 := (blk_cell P1.out 0).trans rfl; have p1 := (blk_cell P1.out 1).trans rfl; have p2 := (blk_cell P1.out 2).trans rfl; clear hm_ hb_ hg_) | (go_at_call 54; with_reducible refine (rCheck_calls (W : Int) (Ht : Int) A n cap _ HL.out).mono ?_; rw [HCE.out]; rintro e w2 ⟨rfl, hb⟩; have P2 := Aside0.mk (blk_below P1.out hb); have B2 := Aside0.mk (below_step B1.out hb); clear hb))
 go_loopw [5, 6] (fun v u W' => ∃ i : Nat, i ≤ n ∧ u = .int .i64 (i : Int) ∧ Aside0 (W'.heap[gP]? = some (.cells #[.int .i64 (W : Int), .int .i64 (Ht : Int), .slice A n cap] 31 (0, 0)) ∧ Below w.heap.size w W' ∧ (nat .u32).R 24 W' w.heap.size (fun _ => True) v (restsTo xs W i))) (fun _ u _ => n - (intOf u).toNat)
 case atStart => exact ⟨0, Nat.zero_le _, rfl, ⟨P2.out, B2.out, Kd.R_nil _ _ _ _ _⟩⟩
 case round =>
  clear P2 B2 P1 B1 p0 p1 p2
  obtain ⟨i, hi, rfl, HI⟩ := hrel
  have P2 := Aside0.mk HI.out.1
  have B2 := Aside0.mk HI.out.2.1
  have R2 := Aside0.mk HI.out.2.2
  clear HI
  have p0 := (blk_cell P2.out 0).trans rfl
  have p2 := (blk_cell P2.out 2).trans rfl
  by_cases hlt : i < n
  ·have c1 : decide ((i : Int) < (n : Int)) = true := decide_eq_true (by omega)
   have c2 : decide (i < n) = true := decide_eq_true hlt
   have i1 : ((i : Int) < (n : Int)) = True := eq_true (by omega)
   have i2 : (i < n) = True := eq_true hlt
   obtain ⟨ad, rfl, hx⟩ := C_nat (Kd.C_below HC.out B2.out) i hlt
   obtain ⟨s, hs⟩ : ∃ s, gt xs i = s := ⟨_, rfl⟩
   rw [hs] at hx
   have HSL : Aside0 (s < 4294967296) := ⟨by rw [← hs]; exact HX.out i⟩
   obtain ⟨g, hg⟩ : ∃ g, guessN xs W i = g := ⟨_, rfl⟩
   have HG := Aside0.mk hg
   have HGL : Aside0 (g < 4294967296) := ⟨by rw [← hg]; exact guessN_lt HX.out⟩
   obtain ⟨k1, hk1⟩ : ∃ k, key s = k := ⟨_, rfl⟩
   obtain ⟨k2, hk2⟩ : ∃ k, key g = k := ⟨_, rfl⟩
   have HK1 := Aside0.mk hk1
   have HK2 := Aside0.mk hk2
   obtain ⟨r, hr⟩ : ∃ r, restAt xs W i = r := ⟨_, rfl⟩
   have hk1l : k1 < 4294967296 := by rw [← hk1]; exact key_lt HSL.out
   have hk2l : k2 < 4294967296 := by rw [← hk2]; exact key_lt HGL.out
   have hr2 : r = (k1 + 4294967296 - k2) % 4294967296 := by rw [← hr]; unfold restAt; rw [hs, hg, hk1, hk2]
   have e1 : IntKind.u32.wrap ((k1 : Int) - (k2 : Int)) = (r : Int) := by rw [hr2]; simp only [IntKind.wrap_u32]; omega
   have HRS : Aside0 (restsTo xs W (i + 1) = restsTo xs W i ++ [r]) := ⟨by rw [restsTo_succ, hr]⟩
   have HLT := Aside0.mk hlt
   clear hs hg hk1 hk2 hr hr2 hk1l hk2l hlt
   have HWL : Aside0 (W < 4611686018427387904) := ⟨by have := HW.out.2; omega⟩
   have HIL : Aside0 (i ≤ n) := ⟨hi⟩
   go_upto_region 8 with (fail)
   have R3 := Aside0.mk (Kd.R_below R2.out (below_drew1 (Below.refl _ wr)))
   have P3 := Aside0.mk (blk_drew P2.out)
   have X3 : Aside0 (wr.drew.cell? (ad.add i) = some (.int .u32 (s : Int))) := ⟨hx⟩
   have B3 := Aside0.mk (below_drew1 B2.out)
   clear R2 P2 B2 p0 p2 hx
   refine start_ (n := 18) (S := fun w' => w'.cell? ⟨gP, 0, none⟩ = some (.int .i64 (W : Int)) ∧ w'.cell? ⟨gP, 2, none⟩ = some (.slice (some ad) n cap) ∧ w'.cell? (ad.add i) = some (.int .u32 (s : Int))) (ds := [16]) #[ff_,ff_,ff_,ff_,ff_,ff_,ff_,ff_,ff_,ff_,ff_,ff_,ff_,ff_,ff_,ff_,ff_,ff_] (by kernel_rfl) rfl rfl ⟨(blk_cell P3.out 0).trans rfl, (blk_cell P3.out 2).trans rfl, X3.out⟩ (fun hHeld => ?_)
   generalize wr.drew = wd at *
   refine pure_ (i := 0) (N := some 19) (v := ?_) (a' := ?_) #[tt_,ff_,ff_,ff_,ff_,ff_,ff_,ff_,ff_,ff_,ff_,ff_,ff_,ff_,ff_,ff_,ff_,ff_] rfl rfl (by kernel_rfl) (fun _ _ _ h => h) (Or.inl ⟨by rfl, ?_⟩) ?_ ?_
   rotate_left
   ·intro w'
    go_simp
    with_reducible rfl
   rotate_left
   ·simp only [Act.put, List.setIfInBounds_toArray, List.set_cons_zero, List.set_cons_succ, i64_w, i32_w]
    rfl
   refine pure_ (i := 1) (N := some 20) (v := ?_) (a' := ?_) #[tt_,tt_,ff_,ff_,ff_,ff_,ff_,ff_,ff_,ff_,ff_,ff_,ff_,ff_,ff_,ff_,ff_,ff_] rfl rfl (by kernel_rfl) (fun _ _ _ h => h) (Or.inl ⟨by rfl, ?_⟩) ?_ ?_
   rotate_left
   ·intro w'
    go_simp
    with_reducible rfl
   rotate_left
   ·simp only [Act.put, List.setIfInBounds_toArray, List.set_cons_zero, List.set_cons_succ, i64_w, i32_w]
    rfl
   refine pure_ (i := 3) (N := some 22) (v := ?_) (a' := ?_) #[tt_,tt_,ff_,tt_,ff_,ff_,ff_,ff_,ff_,ff_,ff_,ff_,ff_,ff_,ff_,ff_,ff_,ff_] rfl rfl (by kernel_rfl) (fun _ _ _ h => h) (Or.inl ⟨by rfl, ?_⟩) ?_ ?_
   rotate_left
   ·intro w'
    go_simp
    with_reducible rfl
   rotate_left
   ·simp only [Act.put, List.setIfInBounds_toArray, List.set_cons_zero, List.set_cons_succ, i64_w, i32_w]
    rfl
   refine pure_ (i := 7) (N := some 26) (v := ?_) (a' := ?_) #[tt_,tt_,ff_,tt_,ff_,ff_,ff_,tt_,ff_,ff_,ff_,ff_,ff_,ff_,ff_,ff_,ff_,ff_] rfl rfl (by kernel_rfl) (fun _ _ _ h => h) (Or.inl ⟨by rfl, ?_⟩) ?_ ?_
   rotate_left
   ·intro w'
    go_simp
    with_reducible rfl
   rotate_left
   ·simp only [Act.put, List.setIfInBounds_toArray, List.set_cons_zero, List.set_cons_succ, i64_w, i32_w]
    rfl
   refine pure_ (i := 9) (N := some 28) (v := ?_) (a' := ?_) #[tt_,tt_,ff_,tt_,ff_,ff_,ff_,tt_,ff_,tt_,ff_,ff_,ff_,ff_,ff_,ff_,ff_,ff_] rfl rfl (by kernel_rfl) (fun _ _ _ h => h) (Or.inl ⟨by rfl, ?_⟩) ?_ ?_
   rotate_left
   ·intro w'
    go_simp
    with_reducible rfl
   rotate_left
   ·simp only [Act.put, List.setIfInBounds_toArray, List.set_cons_zero, List.set_cons_succ, i64_w, i32_w]
    rfl
   refine pure_ (i := 11) (N := some 30) (v := ?_) (a' := ?_) #[tt_,tt_,ff_,tt_,ff_,ff_,ff_,tt_,ff_,tt_,ff_,tt_,ff_,ff_,ff_,ff_,ff_,ff_] rfl rfl (by kernel_rfl) (fun _ _ _ h => h) (Or.inl ⟨by rfl, ?_⟩) ?_ ?_
   rotate_left
   ·intro w'
    go_simp
    with_reducible rfl
   rotate_left
   ·simp only [Act.put, List.setIfInBounds_toArray, List.set_cons_zero, List.set_cons_succ, i64_w, i32_w]
    rfl
   refine take_ (i := 2) (N := some 21) (v := ?_) (a' := ?_) #[tt_,tt_,tt_,tt_,ff_,ff_,ff_,tt_,ff_,tt_,ff_,tt_,ff_,ff_,ff_,ff_,ff_,ff_] rfl rfl (by kernel_rfl) (fun _ _ _ h => h) (Or.inl ⟨by rfl, ?_⟩) hHeld ?_ ?_
   rotate_left
   ·rintro w' ⟨s0, s1, s2⟩
    go_simp
    with_reducible rfl
   rotate_left
   ·simp only [Act.put, List.setIfInBounds_toArray, List.set_cons_zero, List.set_cons_succ, i64_w, i32_w]
    rfl
   refine pure_ (i := 4) (N := some 23) (v := ?_) (a' := ?_) #[tt_,tt_,tt_,tt_,tt_,ff_,ff_,tt_,ff_,tt_,ff_,tt_,ff_,ff_,ff_,ff_,ff_,ff_] rfl rfl (by kernel_rfl) (fun _ _ _ h => h) (Or.inl ⟨by rfl, ?_⟩) ?_ ?_
   rotate_left
   ·intro w'
    go_simp
    with_reducible rfl
   rotate_left
   ·simp only [Act.put, List.setIfInBounds_toArray, List.set_cons_zero, List.set_cons_succ, i64_w, i32_w]
    rfl
   refine take_ (i := 5) (N := some 24) (v := ?_) (a' := ?_) #[tt_,tt_,tt_,tt_,tt_,tt_,ff_,tt_,ff_,tt_,ff_,tt_,ff_,ff_,ff_,ff_,ff_,ff_] rfl rfl (by kernel_rfl) (fun _ _ _ h => h) (Or.inl ⟨by rfl, ?_⟩) hHeld ?_ ?_
   rotate_left
   ·rintro w' ⟨s0, s1, s2⟩
    go_simp
    with_reducible rfl
   rotate_left
   ·simp only [Act.put, List.setIfInBounds_toArray, List.set_cons_zero, List.set_cons_succ, i64_w, i32_w]
    rfl
   refine take_ (i := 8) (N := some 27) (v := ?_) (a' := ?_) #[tt_,tt_,tt_,tt_,tt_,tt_,ff_,tt_,tt_,tt_,ff_,tt_,ff_,ff_,ff_,ff_,ff_,ff_] rfl rfl (by kernel_rfl) (fun _ _ _ h => h) (Or.inl ⟨by rfl, ?_⟩) hHeld ?_ ?_
   rotate_left
   ·rintro w' ⟨s0, s1, s2⟩
    go_simp
    with_reducible rfl
   rotate_left
   ·simp only [Act.put, List.setIfInBounds_toArray, List.set_cons_zero, List.set_cons_succ, i64_w, i32_w]
    rfl
   refine take_ (i := 10) (N := some 29) (v := ?_) (a' := ?_) #[tt_,tt_,tt_,tt_,tt_,tt_,ff_,tt_,tt_,tt_,tt_,tt_,ff_,ff_,ff_,ff_,ff_,ff_] rfl rfl (by kernel_rfl) (fun _ _ _ h => h) (Or.inl ⟨by rfl, ?_⟩) hHeld ?_ ?_
   rotate_left
   ·rintro w' ⟨s0, s1, s2⟩
    go_simp
    with_reducible rfl
   rotate_left
   ·simp only [Act.put, List.setIfInBounds_toArray, List.set_cons_zero, List.set_cons_succ, i64_w, i32_w]
    rfl
   refine one_ (i := 6) (N := some 25) #[tt_,tt_,tt_,tt_,tt_,tt_,tt_,tt_,tt_,tt_,tt_,tt_,ff_,ff_,ff_,ff_,ff_,ff_] rfl rfl (by kernel_rfl) (by decide) (fun K hK => ?_)
   refine goes_ Try.func50 (by kernel_rfl) rfl #[.int .u32 (s : Int)] (by rfl) rfl rfl (by (try simp only [List.map_toArray, List.map_cons, List.map_nil]); rfl) ?_
   with_reducible refine (rKey_calls s _ HSL.out).mono ?_
   rw [HK1.out]
   rintro e _ ⟨rfl, rfl⟩
   refine ⟨_, rfl, ?_⟩
   refine hK.out _ _ ⟨(blk_cell P3.out 0).trans rfl, (blk_cell P3.out 2).trans rfl, X3.out⟩ (fun hHeld => ?_)
   clear hK K
   refine norm_ (a' := ?_) ?_ ?_
   rotate_left
   ·show Act.put _ (some 25) _ = _
    simp only [Act.put, List.setIfInBounds_toArray, List.set_cons_zero, List.set_cons_succ, i64_w, i32_w]
    rfl
   refine one_ (i := 12) (N := some 31) #[tt_,tt_,tt_,tt_,tt_,tt_,tt_,tt_,tt_,tt_,tt_,tt_,tt_,ff_,ff_,ff_,ff_,ff_] rfl rfl (by kernel_rfl) (by decide) (fun K hK => ?_)
   refine goes_ Try.func55 (by kernel_rfl) rfl #[.int .i64 (W : Int), .slice (some ad) n cap, .int .i64 (i : Int)] (by rfl) rfl rfl (by (try simp only [List.map_toArray, List.map_cons, List.map_nil]); rfl) ?_
   with_reducible refine (rguess_calls W i n (some ad) cap xs _ HN.out (Kd.C_below HC.out B3.out) HX.out HW.out.1 HWL.out HIL.out HL.out).mono ?_
   rw [HG.out]
   rintro e w12 ⟨rfl, hm⟩
   refine ⟨_, rfl, ?_⟩
   have B12 := Aside0.mk (drewN_below hm)
   have P12 := Aside0.mk (blk_below P3.out B12.out)
   have X12 := Aside0.mk (cell_on B12.out X3.out)
   clear hm
   have B5 := Aside0.mk (below_step B3.out B12.out)
   have R5 := Aside0.mk (Kd.R_below R3.out B12.out)
   refine hK.out _ _ ⟨(blk_cell P12.out 0).trans rfl, (blk_cell P12.out 2).trans rfl, X12.out⟩ (fun hHeld => ?_)
   clear hK K
   refine norm_ (a' := ?_) ?_ ?_
   rotate_left
   ·show Act.put _ (some 31) _ = _
    simp only [Act.put, List.setIfInBounds_toArray, List.set_cons_zero, List.set_cons_succ, i64_w, i32_w]
    rfl
   refine one_ (i := 13) (N := some 32) #[tt_,tt_,tt_,tt_,tt_,tt_,tt_,tt_,tt_,tt_,tt_,tt_,tt_,tt_,ff_,ff_,ff_,ff_] rfl rfl (by kernel_rfl) (by decide) (fun K hK => ?_)
   refine goes_ Try.func50 (by kernel_rfl) rfl #[.int .u32 (g : Int)] (by rfl) rfl rfl (by (try simp only [List.map_toArray, List.map_cons, List.map_nil]); rfl) ?_
   with_reducible refine (rKey_calls g _ HGL.out).mono ?_
   rw [HK2.out]
   rintro e _ ⟨rfl, rfl⟩
   refine ⟨_, rfl, ?_⟩
   refine hK.out _ _ ⟨(blk_cell P12.out 0).trans rfl, (blk_cell P12.out 2).trans rfl, X12.out⟩ (fun hHeld => ?_)
   clear hK K
   refine norm_ (a' := ?_) ?_ ?_
   rotate_left
   ·show Act.put _ (some 32) _ = _
    simp only [Act.put, List.setIfInBounds_toArray, List.set_cons_zero, List.set_cons_succ, i64_w, i32_w]
    rfl
   refine pure_ (i := 14) (N := some 33) (v := ?_) (a' := ?_) #[tt_,tt_,tt_,tt_,tt_,tt_,tt_,tt_,tt_,tt_,tt_,tt_,tt_,tt_,tt_,ff_,ff_,ff_] rfl rfl (by kernel_rfl) (fun _ _ _ h => h) (Or.inl ⟨by rfl, ?_⟩) ?_ ?_
   rotate_left
   ·intro w'
    go_simp
    with_reducible rfl
   rotate_left
   ·simp only [Act.put, List.setIfInBounds_toArray, List.set_cons_zero, List.set_cons_succ, i64_w, i32_w]
    rfl
   refine one_ (i := 15) (N := some 34) #[tt_,tt_,tt_,tt_,tt_,tt_,tt_,tt_,tt_,tt_,tt_,tt_,tt_,tt_,tt_,tt_,ff_,ff_] rfl rfl (by kernel_rfl) (by decide) (fun K hK => ?_)
   refine value_ (w1 := ?_) (v := ?_) (by rfl) rfl ?_ ?_
   rotate_left 2
   ·go_simp
    constructor
    ·rfl
    ·rfl
   refine hK.out _ _ ⟨(blk_cell (blk_below P12.out (below1 w12 (.cells #[.int .u32 (r : Int)] 24 (0, 0)))) 0).trans rfl, (blk_cell (blk_below P12.out (below1 w12 (.cells #[.int .u32 (r : Int)] 24 (0, 0)))) 2).trans rfl, (cell_on (below1 w12 (.cells #[.int .u32 (r : Int)] 24 (0, 0))) X12.out)⟩ (fun hHeld => ?_)
   clear hK K
   refine norm_ (a' := ?_) ?_ ?_
   rotate_left
   ·show Act.put _ (some 34) _ = _
    simp only [Act.put, List.setIfInBounds_toArray, List.set_cons_zero, List.set_cons_succ, i64_w, i32_w]
    rfl
   refine last_ (i := 16) (N := some 35) #[tt_,tt_,tt_,tt_,tt_,tt_,tt_,tt_,tt_,tt_,tt_,tt_,tt_,tt_,tt_,tt_,tt_,ff_] rfl rfl (by kernel_rfl) (by decide) (fun K hK => ?_)
   refine Kd.R_append_step (nat .u32) (w0 := w) w.heap.size (by rfl) (.tmp 19) (.tmp 34) 29 24 (.int .u32 0) 4 rfl Try.underlying29 info24 rfl (by decide) (by decide) u5 (restsTo xs W i) r [.int .u32 (r : Int)] (fun _ => True) (fun _ => False) rfl rfl rfl (fun _ hk => hk.elim) (fun _ _ => trivial) ?aO ?aB ?aS ?aL ?_
   (case aO => exact R5.out)
   (case aB => exact B5.out)
   (case aS => exact below_size B5.out)
   (case aL => rw [restsTo_length]; have := HIL.out; have := HL2.out; omega)
   intro v7 w7 hR hB hg hat
   rw [← HRS.out] at hR
   have R7 := Aside0.mk hR
   have B7 := Aside0.mk hB
   have P7 := Aside0.mk (blk_grown P12.out hg (Kd.R_ne R5.out P12.out (by decide)))
   clear hR hB hg hat
   refine hK.out _ _ ?_
   clear hK K
   refine norm_ (a' := ?_) ?_ ?_
   rotate_left
   ·show Act.put _ (some 35) _ = _
    simp only [Act.put, List.setIfInBounds_toArray, List.set_cons_zero, List.set_cons_succ, i64_w, i32_w]
    rfl
   refine pure_ (i := 17) (N := some 5) (v := ?_) (a' := ?_) #[tt_,tt_,tt_,tt_,tt_,tt_,tt_,tt_,tt_,tt_,tt_,tt_,tt_,tt_,tt_,tt_,tt_,tt_] rfl rfl (by kernel_rfl) (fun _ _ _ h => h) (Or.inl ⟨by rfl, ?_⟩) ?_ ?_
   rotate_left
   ·intro w'
    go_simp
    with_reducible rfl
   rotate_left
   ·simp only [Act.put, List.setIfInBounds_toArray, List.set_cons_zero, List.set_cons_succ, i64_w, i32_w]
    rfl
   refine done_ (by kernel_rfl) ?_
   have hlt := HLT.out
   have hnb := HL2.out
   go_wp2
   go_roundw
   case measure => simp [intOf]; omega
   case rel => exact ⟨i + 1, by omega, by go_num, ⟨P7.out, B7.out, R7.out⟩⟩
  ·obtain rfl : n = i := by omega
   have c1 : decide ((n : Int) < (n : Int)) = false := decide_eq_false (by omega)
   clear hlt
   go_wp2
   go_ret2
   exact ⟨_, rfl, R2.out, B2.out⟩
end Go.Proofs.Ytbbebhdcfopmmaa.A
end
section
set_option linter.unusedVariables false
set_option linter.unusedSimpArgs false
namespace Go.Proofs.Ytbbebhdcfopmmaa.A
open Go.RowKit Go.Proofs.YtbbebhdcfopmmaaW.PrintWords Go.Proofs.YtbbebhdcfopmmaaW.PrintLast Go.Proofs.YtbbebhdcfopmmaaW.PrintMore Go.Proofs.Ytbbebhdcfopmmaa.PCodecNames

set_option maxHeartbeats 4000000 in
set_option maxRecDepth 100000 in
theorem rPlane_bad (x y : Int) (A : Option Addr) (n cap : Nat) (w : World) (hl : n < 4611686018427387904) (hc : checkE x y n ≠ 0) :
    Calls Try.prog 25 #[.int .i64 x, .int .i64 y, .slice A n cap] w fun e w' => e = .returned (.tuple #[.agg #[.int .i64 0, .int .i64 0, .slice none 0 0], .int .i64 ((checkE x y n : Nat) : Int)]) ∧ Below w.heap.size w w' := by
 have hu31 := Try.underlying31
 rcases hs : sizeB x y with _ | _
 ·have HS := Aside0.mk hs
  have hz : checkE x y n = 50 := by unfold checkE; rw [hs]; rfl
  rw [hz]
  clear hs hc hz hl
  go_enter Try.func25, Try.ntmps25
  go_wp2_with (first | ((with_reducible refine gate_dst (N := 6) rfl ?_); refine box_event ?hg (N := 6) ?hd (cs := #[.int .i64 0, .int .i64 0, .slice none 0 0]) (t := 31) ?hr ?_; (case hd => rfl); (case hg => rfl); (case hr => first | (go_simp; done) | (go_simp; rfl)); intro gR hg_ w1 hm_ hb_; have R1 := Aside0.mk (hm_); have B1 := Aside0.mk (hb_); have GR := Aside0.mk (show w.heap.size ≤ gR by rw [hg_]; exact Nat.le_refl _); have o0 := (blk_cell R1.out 0).trans rfl; have o1 := (blk_cell R1.out 1).trans rfl; have o2 := (blk_cell R1.out 2).trans rfl; have fo0 := blk_frozen R1.out 0; have fo1 := blk_frozen R1.out 1; have fo2 := blk_frozen R1.out 2; clear hm_ hb_ hg_) | (go_at_call 56; with_reducible refine (rSize_calls x y _).mono ?_; rw [HS.out]; rintro e w2 ⟨rfl, rfl⟩))
  obtain ⟨wz, hwz⟩ : ∃ wz, wz = ((w1.setCell ⟨gR, 0, none⟩ (.int .i64 0)).setCell ⟨gR, 1, none⟩ (.int .i64 0)).setCell ⟨gR, 2, none⟩ (.slice none 0 0) := ⟨_, rfl⟩
  rw [← hwz]
  obtain ⟨hGz, hstz, hblz⟩ := put3 R1.out hwz
  refine bodyPost_ret (results_ct rfl _ _ gR 31 #[.int .i64 0, .int .i64 0, .slice none 0 0] (0, 0) _ rfl hGz Try.underlying31 rfl (by kernel_rfl)) rfl ?_
  exact ⟨rfl, B1.out.trans (hblz _ GR.out)⟩
 ·have HS := Aside0.mk hs
  obtain ⟨h1, h2, h3, h4, h5⟩ := sizeB_true hs
  have hne : (n : Int) ≠ x * y := fun h => hc (by unfold checkE; rw [hs, if_pos rfl, if_pos h])
  have hz : checkE x y n = 51 := by unfold checkE; rw [hs, if_pos rfl, if_neg hne]
  rw [hz]
  have hb := prod_bound h1 h2 h3 h4
  have e1 : IntKind.i64.wrap (x * y) = x * y := by simp only [IntKind.wrap_i64]; omega
  have e2 : wrap64 (x * y) = x * y := by unfold wrap64; omega
  have t1 : ((n : Int) != x * y) = true := by rw [bne_iff_ne]; exact hne
  clear hs hc hz hl hb hne h5
  go_enter Try.func25, Try.ntmps25
  go_wp2_with (first | ((with_reducible refine gate_dst (N := 6) rfl ?_); refine box_event ?hg (N := 6) ?hd (cs := #[.int .i64 0, .int .i64 0, .slice none 0 0]) (t := 31) ?hr ?_; (case hd => rfl); (case hg => rfl); (case hr => first | (go_simp; done) | (go_simp; rfl)); intro gR hg_ w1 hm_ hb_; have R1 := Aside0.mk (hm_); have B1 := Aside0.mk (hb_); have GR := Aside0.mk (show w.heap.size ≤ gR by rw [hg_]; exact Nat.le_refl _); have o0 := (blk_cell R1.out 0).trans rfl; have o1 := (blk_cell R1.out 1).trans rfl; have o2 := (blk_cell R1.out 2).trans rfl; have fo0 := blk_frozen R1.out 0; have fo1 := blk_frozen R1.out 1; have fo2 := blk_frozen R1.out 2; clear hm_ hb_ hg_) | (go_at_call 56; with_reducible refine (rSize_calls x y _).mono ?_; rw [HS.out]; rintro e w2 ⟨rfl, rfl⟩))
  obtain ⟨wz, hwz⟩ : ∃ wz, wz = ((w1.setCell ⟨gR, 0, none⟩ (.int .i64 0)).setCell ⟨gR, 1, none⟩ (.int .i64 0)).setCell ⟨gR, 2, none⟩ (.slice none 0 0) := ⟨_, rfl⟩
  rw [← hwz]
  obtain ⟨hGz, hstz, hblz⟩ := put3 R1.out hwz
  refine bodyPost_ret (results_ct rfl _ _ gR 31 #[.int .i64 0, .int .i64 0, .slice none 0 0] (0, 0) _ rfl hGz Try.underlying31 rfl (by kernel_rfl)) rfl ?_
  exact ⟨rfl, B1.out.trans (hblz _ GR.out)⟩

set_option maxHeartbeats 8000000 in
set_option maxRecDepth 100000 in
theorem rPlane_ok (W Ht : Nat) (A : Option Addr) (n cap : Nat) (rs : List Nat) (w : World) (hp : (Pl.mk W Ht rs).ok) (hn : rs.length = n) (hC : (nat .u32).C w A n rs) :
    Calls Try.prog 25 #[.int .i64 (W : Int), .int .i64 (Ht : Int), .slice A n cap] w fun e w' => ∃ v, e = .returned (.tuple #[.agg #[.int .i64 (W : Int), .int .i64 (Ht : Int), v], .int .i64 0]) ∧ (nat .u32).R 24 w' w.heap.size (fun _ => True) v (planeN rs W) ∧ Below w.heap.size w w' := by
 have hu31 := Try.underlying31
 obtain ⟨p1, p2, p3, p4, p5, p6, p7⟩ := hp
 have p1 : 0 < W := p1
 have p2 : 0 < Ht := p2
 have p3 : W ≤ 1024 := p3
 have p4 : Ht ≤ 1024 := p4
 have p5 : W * Ht ≤ 65536 := p5
 have p6 : rs.length = W * Ht := p6
 have hl : n ≤ 65536 := by omega
 have HS : Aside0 (sizeB (W : Int) (Ht : Int) = true) := ⟨by
  unfold sizeB
  simp only [Bool.and_eq_true, decide_eq_true_eq]
  refine ⟨⟨⟨⟨by omega, by omega⟩, by omega⟩, by omega⟩, ?_⟩
  have h : ((W * Ht : Nat) : Int) ≤ 65536 := by omega
  simpa using h⟩
 have hprod : (W : Int) * (Ht : Int) = (n : Int) := by rw [← hn, p6]; exact (Int.natCast_mul _ _).symm
 have e1 : IntKind.i64.wrap ((W : Int) * (Ht : Int)) = (n : Int) := by rw [hprod]; simp only [IntKind.wrap_i64]; omega
 have e2 : wrap64 ((W : Int) * (Ht : Int)) = (n : Int) := by rw [hprod]; unfold wrap64; omega
 have HX := Aside0.mk p7
 have HN := Aside0.mk hn
 have HC := Aside0.mk hC
 have HW : Aside0 (0 < W ∧ W ≤ 1024) := ⟨⟨p1, p3⟩⟩
 have HWL : Aside0 (W < 4611686018427387904) := ⟨by omega⟩
 have HRN : Aside0 (planeN rs W = planeTo rs W n) := ⟨by unfold planeN; rw [hn]⟩
 have HL2 := Aside0.mk hl
 rw [HRN.out]
 clear p1 p2 p3 p4 p5 p6 p7 hn hC hl hprod
 go_enter Try.func25, Try.ntmps25
 go_upto_region 6 with (first | ((with_reducible refine gate_dst (N := 6) rfl ?_); refine box_event ?hg (N := 6) ?hd (cs := #[.int .i64 0, .int .i64 0, .slice none 0 0]) (t := 31) ?hr ?_; (case hd => rfl); (case hg => rfl); (case hr => first | (go_simp; done) | (go_simp; rfl)); intro gR hg_ w1 hm_ hb_; have R1 := Aside0.mk (hm_); have B1 := Aside0.mk (hb_); have GR := Aside0.mk (show w.heap.size ≤ gR by rw [hg_]; exact Nat.le_refl _); have o0 := (blk_cell R1.out 0).trans rfl; have o1 := (blk_cell R1.out 1).trans rfl; have o2 := (blk_cell R1.out 2).trans rfl; have fo0 := blk_frozen R1.out 0; have fo1 := blk_frozen R1.out 1; have fo2 := blk_frozen R1.out 2; clear hm_ hb_ hg_) | (go_at_call 56; with_reducible refine (rSize_calls (W : Int) (Ht : Int) _).mono ?_; rw [HS.out]; rintro e w2 ⟨rfl, rfl⟩) | ((with_reducible refine gate_dst (N := 8) rfl ?_); refine box_event ?hg (N := 8) ?hd (cs := #[.int .i64 0, .int .i64 0, .slice none 0 0]) (t := 31) ?hr ?_; (case hd => rfl); (case hg => rfl); (case hr => first | (go_simp; done) | (go_simp; rfl)); intro gp hg_ w3 hm_ hb_; have X_ := Aside0.mk (put3 (x := .int .i64 (W : Int)) (y := .int .i64 (Ht : Int)) (z := .slice none 0 0) hm_ rfl); have NRP := Aside0.mk (show gR ≠ gp by rw [hg_]; have := blk_lt R1.out; omega); have GPW := Aside0.mk (show w.heap.size ≤ gp by rw [hg_]; exact below_size B1.out); have R4 := Aside0.mk ((X_.out.2.1 gR NRP.out).trans (blk_below R1.out hb_)); have B4 := Aside0.mk ((below_step B1.out hb_).trans (X_.out.2.2 _ GPW.out)); have P4 := Aside0.mk (X_.out.1); have M_ := Aside0.mk hm_; clear o0 o1 o2 fo0 fo1 fo2; have o0 := (blk_cell M_.out 0).trans rfl; have o1 := (blk_cell M_.out 1).trans rfl; have o2 := (blk_cell M_.out 2).trans rfl; have fo0 := blk_frozen M_.out 0; have fo1 := blk_frozen M_.out 1; have fo2 := blk_frozen M_.out 2; clear hm_ hb_ hg_ X_ M_))
 generalize ((w3.setCell ⟨gp, 0, none⟩ (.int .i64 (W : Int))).setCell ⟨gp, 1, none⟩ (.int .i64 (Ht : Int))).setCell ⟨gp, 2, none⟩ (.slice none 0 0) = w4 at *
 clear o0 o1 o2 fo0 fo1 fo2 e1 e2 R1 B1
 go_wp2
 go_loopw [9] (fun u W' => ∃ (i : Nat) (v : Value), i ≤ n ∧ u = .int .i64 (i : Int) ∧ Aside0 (W'.heap[gp]? = some (.cells #[.int .i64 (W : Int), .int .i64 (Ht : Int), v] 31 (0, 0)) ∧ W'.heap[gR]? = some (.cells #[.int .i64 0, .int .i64 0, .slice none 0 0] 31 (0, 0)) ∧ Below w.heap.size w W' ∧ (nat .u32).R 24 W' w.heap.size (fun _ => True) v (planeTo rs W i))) (fun u _ => n - (intOf u).toNat)
 case atStart => exact ⟨0, _, Nat.zero_le _, rfl, ⟨P4.out, R4.out, B4.out, Kd.R_nil _ _ _ _ _⟩⟩
 case round =>
  clear P4 R4 B4
  obtain ⟨i, v, hi, rfl, HI⟩ := hrel
  have P2 := Aside0.mk HI.out.1
  have Q2 := Aside0.mk HI.out.2.1
  have B2 := Aside0.mk HI.out.2.2.1
  have R2 := Aside0.mk HI.out.2.2.2
  clear HI
  by_cases hlt : i < n
  ·have c1 : decide ((i : Int) < (n : Int)) = true := decide_eq_true (by omega)
   have c2_ : decide (i < n) = true := decide_eq_true hlt
   have i1 : ((i : Int) < (n : Int)) = True := eq_true (by omega)
   have i2 : (i < n) = True := eq_true hlt
   obtain ⟨ad, rfl, hx⟩ := C_nat (Kd.C_below HC.out B2.out) i hlt
   obtain ⟨s, hs⟩ : ∃ s, gt rs i = s := ⟨_, rfl⟩
   rw [hs] at hx
   have HSL : Aside0 (s < 4294967296) := ⟨by rw [← hs]; exact HX.out i⟩
   obtain ⟨acc, hacc⟩ : ∃ a, planeTo rs W i = a := ⟨_, rfl⟩
   have HAC := Aside0.mk hacc
   have HAL : Aside0 (acc.length = i) := ⟨by rw [← hacc, planeTo_length]⟩
   have HAX : Aside0 (∀ j, gt acc j < 4294967296) := ⟨by rw [← hacc]; exact planeTo_lt rs W i⟩
   rw [hacc] at R2
   obtain ⟨A2, c2, hv, hc2, hCA⟩ := Kd.R_reads R2.out
   rw [HAL.out] at hv hc2 hCA
   subst hv
   obtain ⟨g, hg⟩ : ∃ g, guessN acc W i = g := ⟨_, rfl⟩
   have HG := Aside0.mk hg
   have HGL : Aside0 (g < 4294967296) := ⟨by rw [← hg]; exact guessN_lt HAX.out⟩
   obtain ⟨k1, hk1⟩ : ∃ k, key g = k := ⟨_, rfl⟩
   have HK1 := Aside0.mk hk1
   obtain ⟨t, ht⟩ : ∃ t, (k1 + s) % 4294967296 = t := ⟨_, rfl⟩
   have HTL : Aside0 (t < 4294967296) := ⟨by rw [← ht]; exact Nat.mod_lt _ (by decide)⟩
   obtain ⟨r, hr⟩ : ∃ r, fromKey t = r := ⟨_, rfl⟩
   have HK2 := Aside0.mk hr
   have e1 : IntKind.u32.wrap ((k1 : Int) + (s : Int)) = (t : Int) := by rw [← ht]; simp only [IntKind.wrap_u32]; omega
   have HRS : Aside0 (planeTo rs W (i + 1) = acc ++ [r]) := ⟨by rw [planeTo, hacc]; unfold backAt; rw [hg, hk1, hs, ht, hr]⟩
   have HLT := Aside0.mk hlt
   have HIL : Aside0 (i < 4611686018427387904) := ⟨by have := HL2.out; omega⟩
   have HIN : Aside0 (i ≤ 65536) := ⟨by have := HL2.out; omega⟩
   have hlt := HLT.out
   have hnb := HL2.out
   have e3 : (k1 : Int) + (s : Int) = (k1 : Int) + (s : Int) := rfl
   clear hs hacc hg hk1 ht hr hc2 hlt e3
   go_upto_region 9 with (fail)
   have R3 := Aside0.mk (Kd.R_below R2.out (below_drew1 (Below.refl _ wr)))
   have P3 := Aside0.mk (blk_drew P2.out)
   have Q3 := Aside0.mk (blk_drew Q2.out)
   have X3 : Aside0 (wr.drew.cell? (ad.add i) = some (.int .u32 (s : Int))) := ⟨hx⟩
   have CA3 := Aside0.mk (Kd.C_below hCA (below_drew1 (Below.refl _ wr)))
   have B3 := Aside0.mk (below_drew1 B2.out)
   clear R2 P2 B2 Q2 hx hCA
   refine start_ (n := 18) (S := fun w' => w'.cell? ⟨gp, 2, none⟩ = some (.slice A2 i c2) ∧ w'.cell? (ad.add i) = some (.int .u32 (s : Int))) (ds := [15, 17]) #[ff_,ff_,ff_,ff_,ff_,ff_,ff_,ff_,ff_,ff_,ff_,ff_,ff_,ff_,ff_,ff_,ff_,ff_] (by kernel_rfl) rfl rfl ⟨(blk_cell P3.out 2).trans rfl, X3.out⟩ (fun hHeld => ?_)
   generalize wr.drew = wd at *
   refine pure_ (i := 0) (N := some 31) (v := ?_) (a' := ?_) #[tt_,ff_,ff_,ff_,ff_,ff_,ff_,ff_,ff_,ff_,ff_,ff_,ff_,ff_,ff_,ff_,ff_,ff_] rfl rfl (by kernel_rfl) (fun _ _ _ h => h) (Or.inl ⟨by rfl, ?_⟩) ?_ ?_
   rotate_left
   ·intro w'
    go_simp
    with_reducible rfl
   rotate_left
   ·simp only [Act.put, List.setIfInBounds_toArray, List.set_cons_zero, List.set_cons_succ, i64_w, i32_w]
    rfl
   refine pure_ (i := 2) (N := some 33) (v := ?_) (a' := ?_) #[tt_,ff_,tt_,ff_,ff_,ff_,ff_,ff_,ff_,ff_,ff_,ff_,ff_,ff_,ff_,ff_,ff_,ff_] rfl rfl (by kernel_rfl) (fun _ _ _ h => h) (Or.inl ⟨by rfl, ?_⟩) ?_ ?_
   rotate_left
   ·intro w'
    go_simp
    with_reducible rfl
   rotate_left
   ·simp only [Act.put, List.setIfInBounds_toArray, List.set_cons_zero, List.set_cons_succ, i64_w, i32_w]
    rfl
   refine pure_ (i := 3) (N := some 34) (v := ?_) (a' := ?_) #[tt_,ff_,tt_,tt_,ff_,ff_,ff_,ff_,ff_,ff_,ff_,ff_,ff_,ff_,ff_,ff_,ff_,ff_] rfl rfl (by kernel_rfl) (fun _ _ _ h => h) (Or.inl ⟨by rfl, ?_⟩) ?_ ?_
   rotate_left
   ·intro w'
    go_simp
    with_reducible rfl
   rotate_left
   ·simp only [Act.put, List.setIfInBounds_toArray, List.set_cons_zero, List.set_cons_succ, i64_w, i32_w]
    rfl
   refine pure_ (i := 5) (N := some 36) (v := ?_) (a' := ?_) #[tt_,ff_,tt_,tt_,ff_,tt_,ff_,ff_,ff_,ff_,ff_,ff_,ff_,ff_,ff_,ff_,ff_,ff_] rfl rfl (by kernel_rfl) (fun _ _ _ h => h) (Or.inl ⟨by rfl, ?_⟩) ?_ ?_
   rotate_left
   ·intro w'
    go_simp
    with_reducible rfl
   rotate_left
   ·simp only [Act.put, List.setIfInBounds_toArray, List.set_cons_zero, List.set_cons_succ, i64_w, i32_w]
    rfl
   refine pure_ (i := 8) (N := some 39) (v := ?_) (a' := ?_) #[tt_,ff_,tt_,tt_,ff_,tt_,ff_,ff_,tt_,ff_,ff_,ff_,ff_,ff_,ff_,ff_,ff_,ff_] rfl rfl (by kernel_rfl) (fun _ _ _ h => h) (Or.inl ⟨by rfl, ?_⟩) ?_ ?_
   rotate_left
   ·intro w'
    go_simp
    with_reducible rfl
   rotate_left
   ·simp only [Act.put, List.setIfInBounds_toArray, List.set_cons_zero, List.set_cons_succ, i64_w, i32_w]
    rfl
   refine pure_ (i := 9) (N := some 40) (v := ?_) (a' := ?_) #[tt_,ff_,tt_,tt_,ff_,tt_,ff_,ff_,tt_,tt_,ff_,ff_,ff_,ff_,ff_,ff_,ff_,ff_] rfl rfl (by kernel_rfl) (fun _ _ _ h => h) (Or.inl ⟨by rfl, ?_⟩) ?_ ?_
   rotate_left
   ·intro w'
    go_simp
    with_reducible rfl
   rotate_left
   ·simp only [Act.put, List.setIfInBounds_toArray, List.set_cons_zero, List.set_cons_succ, i64_w, i32_w]
    rfl
   refine pure_ (i := 10) (N := some 41) (v := ?_) (a' := ?_) #[tt_,ff_,tt_,tt_,ff_,tt_,ff_,ff_,tt_,tt_,tt_,ff_,ff_,ff_,ff_,ff_,ff_,ff_] rfl rfl (by kernel_rfl) (fun _ _ _ h => h) (Or.inl ⟨by rfl, ?_⟩) ?_ ?_
   rotate_left
   ·intro w'
    go_simp
    with_reducible rfl
   rotate_left
   ·simp only [Act.put, List.setIfInBounds_toArray, List.set_cons_zero, List.set_cons_succ, i64_w, i32_w]
    rfl
   refine take_ (i := 1) (N := some 32) (v := ?_) (a' := ?_) #[tt_,tt_,tt_,tt_,ff_,tt_,ff_,ff_,tt_,tt_,tt_,ff_,ff_,ff_,ff_,ff_,ff_,ff_] rfl rfl (by kernel_rfl) (fun _ _ _ h => h) (Or.inl ⟨by rfl, ?_⟩) hHeld ?_ ?_
   rotate_left
   ·rintro w' ⟨s0, s1⟩
    go_simp
    with_reducible rfl
   rotate_left
   ·simp only [Act.put, List.setIfInBounds_toArray, List.set_cons_zero, List.set_cons_succ, i64_w, i32_w]
    rfl
   refine take_ (i := 4) (N := some 35) (v := ?_) (a' := ?_) #[tt_,tt_,tt_,tt_,tt_,tt_,ff_,ff_,tt_,tt_,tt_,ff_,ff_,ff_,ff_,ff_,ff_,ff_] rfl rfl (by kernel_rfl) (fun _ _ _ h => h) (Or.inl ⟨by rfl, ?_⟩) hHeld ?_ ?_
   rotate_left
   ·rintro w' ⟨s0, s1⟩
    go_simp
    with_reducible rfl
   rotate_left
   ·simp only [Act.put, List.setIfInBounds_toArray, List.set_cons_zero, List.set_cons_succ, i64_w, i32_w]
    rfl
   refine take_ (i := 11) (N := some 42) (v := ?_) (a' := ?_) #[tt_,tt_,tt_,tt_,tt_,tt_,ff_,ff_,tt_,tt_,tt_,tt_,ff_,ff_,ff_,ff_,ff_,ff_] rfl rfl (by kernel_rfl) (fun _ _ _ h => h) (Or.inl ⟨by rfl, ?_⟩) hHeld ?_ ?_
   rotate_left
   ·rintro w' ⟨s0, s1⟩
    go_simp
    with_reducible rfl
   rotate_left
   ·simp only [Act.put, List.setIfInBounds_toArray, List.set_cons_zero, List.set_cons_succ, i64_w, i32_w]
    rfl
   refine one_ (i := 6) (N := some 37) #[tt_,tt_,tt_,tt_,tt_,tt_,tt_,ff_,tt_,tt_,tt_,tt_,ff_,ff_,ff_,ff_,ff_,ff_] rfl rfl (by kernel_rfl) (by decide) (fun K hK => ?_)
   refine goes_ Try.func55 (by kernel_rfl) rfl #[.int .i64 (W : Int), .slice A2 i c2, .int .i64 (i : Int)] (by rfl) rfl rfl (by (try simp only [List.map_toArray, List.map_cons, List.map_nil]); rfl) ?_
   with_reducible refine (rguess_calls W i i A2 c2 acc _ HAL.out CA3.out HAX.out HW.out.1 HWL.out (Nat.le_refl i) HIL.out).mono ?_
   rw [HG.out]
   rintro e w5 ⟨rfl, hm⟩
   refine ⟨_, rfl, ?_⟩
   have hb := drewN_below hm
   have B5 := Aside0.mk (below_step B3.out hb)
   have P5 := Aside0.mk (blk_below P3.out hb)
   have X5 := Aside0.mk (cell_on hb X3.out)
   have R5 := Aside0.mk (Kd.R_below R3.out hb)
   have Q5 := Aside0.mk (blk_below Q3.out hb)
   clear hm hb
   refine hK.out _ _ ⟨(blk_cell P5.out 2).trans rfl, X5.out⟩ (fun hHeld => ?_)
   clear hK K
   refine norm_ (a' := ?_) ?_ ?_
   rotate_left
   ·show Act.put _ (some 37) _ = _
    simp only [Act.put, List.setIfInBounds_toArray, List.set_cons_zero, List.set_cons_succ, i64_w, i32_w]
    rfl
   refine one_ (i := 7) (N := some 38) #[tt_,tt_,tt_,tt_,tt_,tt_,tt_,tt_,tt_,tt_,tt_,tt_,ff_,ff_,ff_,ff_,ff_,ff_] rfl rfl (by kernel_rfl) (by decide) (fun K hK => ?_)
   refine goes_ Try.func50 (by kernel_rfl) rfl #[.int .u32 (g : Int)] (by rfl) rfl rfl (by (try simp only [List.map_toArray, List.map_cons, List.map_nil]); rfl) ?_
   with_reducible refine (rKey_calls g _ HGL.out).mono ?_
   rw [HK1.out]
   rintro e _ ⟨rfl, rfl⟩
   refine ⟨_, rfl, ?_⟩
   refine hK.out _ _ ⟨(blk_cell P5.out 2).trans rfl, X5.out⟩ (fun hHeld => ?_)
   clear hK K
   refine norm_ (a' := ?_) ?_ ?_
   rotate_left
   ·show Act.put _ (some 38) _ = _
    simp only [Act.put, List.setIfInBounds_toArray, List.set_cons_zero, List.set_cons_succ, i64_w, i32_w]
    rfl
   refine pure_ (i := 12) (N := some 43) (v := ?_) (a' := ?_) #[tt_,tt_,tt_,tt_,tt_,tt_,tt_,tt_,tt_,tt_,tt_,tt_,tt_,ff_,ff_,ff_,ff_,ff_] rfl rfl (by kernel_rfl) (fun _ _ _ h => h) (Or.inl ⟨by rfl, ?_⟩) ?_ ?_
   rotate_left
   ·intro w'
    go_simp
    with_reducible rfl
   rotate_left
   ·simp only [Act.put, List.setIfInBounds_toArray, List.set_cons_zero, List.set_cons_succ, i64_w, i32_w]
    rfl
   refine one_ (i := 13) (N := some 44) #[tt_,tt_,tt_,tt_,tt_,tt_,tt_,tt_,tt_,tt_,tt_,tt_,tt_,tt_,ff_,ff_,ff_,ff_] rfl rfl (by kernel_rfl) (by decide) (fun K hK => ?_)
   refine goes_ Try.func51 (by kernel_rfl) rfl #[.int .u32 (t : Int)] (by rfl) rfl rfl (by (try simp only [List.map_toArray, List.map_cons, List.map_nil]); rfl) ?_
   with_reducible refine (rFromKey_calls t _ HTL.out).mono ?_
   rw [HK2.out]
   rintro e _ ⟨rfl, rfl⟩
   refine ⟨_, rfl, ?_⟩
   refine hK.out _ _ ⟨(blk_cell P5.out 2).trans rfl, X5.out⟩ (fun hHeld => ?_)
   clear hK K
   refine norm_ (a' := ?_) ?_ ?_
   rotate_left
   ·show Act.put _ (some 44) _ = _
    simp only [Act.put, List.setIfInBounds_toArray, List.set_cons_zero, List.set_cons_succ, i64_w, i32_w]
    rfl
   refine one_ (i := 14) (N := some 45) #[tt_,tt_,tt_,tt_,tt_,tt_,tt_,tt_,tt_,tt_,tt_,tt_,tt_,tt_,tt_,ff_,ff_,ff_] rfl rfl (by kernel_rfl) (by decide) (fun K hK => ?_)
   refine value_ (w1 := ?_) (v := ?_) (by rfl) rfl ?_ ?_
   rotate_left 2
   ·go_simp
    constructor
    ·rfl
    ·rfl
   refine hK.out _ _ ⟨(blk_cell (blk_below P5.out (below1 w5 (.cells #[.int .u32 (r : Int)] 24 (0, 0)))) 2).trans rfl, (cell_on (below1 w5 (.cells #[.int .u32 (r : Int)] 24 (0, 0))) X5.out)⟩ (fun hHeld => ?_)
   clear hK K
   refine norm_ (a' := ?_) ?_ ?_
   rotate_left
   ·show Act.put _ (some 45) _ = _
    simp only [Act.put, List.setIfInBounds_toArray, List.set_cons_zero, List.set_cons_succ, i64_w, i32_w]
    rfl
   refine last_ (i := 15) (N := some 46) #[tt_,tt_,tt_,tt_,tt_,tt_,tt_,tt_,tt_,tt_,tt_,tt_,tt_,tt_,tt_,tt_,ff_,ff_] rfl rfl (by kernel_rfl) (by decide) (fun K hK => ?_)
   refine Kd.R_append_step (nat .u32) (w0 := w) w.heap.size (by rfl) (.tmp 32) (.tmp 45) 29 24 (.int .u32 0) 4 rfl Try.underlying29 info24 rfl (by decide) (by decide) (.slice A2 i c2) acc r [.int .u32 (r : Int)] (fun _ => True) (fun _ => False) rfl rfl rfl (fun _ hk => hk.elim) (fun _ _ => trivial) ?aO ?aB ?aS ?aL ?_
   (case aO => exact R5.out)
   (case aB => exact B5.out)
   (case aS => exact below_size B5.out)
   (case aL => rw [HAL.out]; have := HIN.out; omega)
   intro v7 w7 hR hB hg hat
   rw [← HRS.out] at hR
   obtain ⟨A7, c7, hv7⟩ := Kd.R_slice hR
   rw [planeTo_length] at hv7
   subst hv7
   have R7 := Aside0.mk hR
   have B7 := Aside0.mk hB
   have P7 := Aside0.mk (blk_grown P5.out hg (Kd.R_ne R5.out P5.out (by decide)))
   have Q7 := Aside0.mk (blk_grown Q5.out hg (Kd.R_ne R5.out Q5.out (by decide)))
   clear hR hB hg hat
   have z0 := (blk_cell P7.out 2).trans rfl
   have zf := blk_frozen P7.out 2
   refine hK.out _ _ ?_
   clear hK K
   refine norm_ (a' := ?_) ?_ ?_
   rotate_left
   ·show Act.put _ (some 46) _ = _
    simp only [Act.put, List.setIfInBounds_toArray, List.set_cons_zero, List.set_cons_succ, i64_w, i32_w]
    rfl
   refine pure_ (i := 16) (N := some 47) (v := ?_) (a' := ?_) #[tt_,tt_,tt_,tt_,tt_,tt_,tt_,tt_,tt_,tt_,tt_,tt_,tt_,tt_,tt_,tt_,tt_,ff_] rfl rfl (by kernel_rfl) (fun _ _ _ h => h) (Or.inl ⟨by rfl, ?_⟩) ?_ ?_
   rotate_left
   ·intro w'
    go_simp
    with_reducible rfl
   rotate_left
   ·simp only [Act.put, List.setIfInBounds_toArray, List.set_cons_zero, List.set_cons_succ, i64_w, i32_w]
    rfl
   refine last_ (i := 17) (N := none) #[tt_,tt_,tt_,tt_,tt_,tt_,tt_,tt_,tt_,tt_,tt_,tt_,tt_,tt_,tt_,tt_,tt_,tt_] rfl rfl (by kernel_rfl) (by decide) (fun K hK => ?_)
   refine skip_ (w1 := ?_) (by rfl) rfl ?_ ?_
   rotate_left
   ·go_simp
    rfl
   refine hK.out _ _ ?_
   clear hK K
   refine done_ (by kernel_rfl) ?_
   obtain ⟨w8, hw8⟩ : ∃ w8, w8 = w7.setCell ⟨gp, 2, none⟩ (.slice A7 (i + 1) c7) := ⟨_, rfl⟩
   rw [← hw8]
   have P8 := Aside0.mk (show w8.heap[gp]? = some (.cells #[.int .i64 (W : Int), .int .i64 (Ht : Int), .slice A7 (i + 1) c7] 31 (0, 0)) by rw [hw8]; exact (blk_set P7.out 2 (.slice A7 (i + 1) c7)).trans rfl)
   have hst : ∀ k, k ≠ gp → w8.heap[k]? = w7.heap[k]? := fun k hk => by rw [hw8]; exact Below.heap_setCell _ _ _ k hk
   have Q8 := Aside0.mk ((hst gR NRP.out).trans Q7.out)
   have B8 : Aside0 (Below w.heap.size w w8) := ⟨by rw [hw8]; exact B7.out.setCell (p := ⟨gp, 2, none⟩) GPW.out (.slice A7 (i + 1) c7)⟩
   have R8 := Aside0.mk (nat_move R7.out (fun k hk => hst k (fun e => Kd.R_ne R7.out P7.out (by decide) (by rw [← e]; exact hk.symm))))
   clear P7 Q7 B7 R7 hst hw8 z0 zf
   have hlt := HLT.out
   have hnb := HL2.out
   go_wp2
   go_roundw
   case measure => simp [intOf]; omega
   case rel => exact ⟨i + 1, _, by omega, by go_num, ⟨P8.out, Q8.out, B8.out, R8.out⟩⟩
  ·obtain rfl : n = i := by omega
   have c1 : decide ((n : Int) < (n : Int)) = false := decide_eq_false (by omega)
   obtain ⟨Av, cv, hv⟩ := Kd.R_slice R2.out
   rw [planeTo_length] at hv
   subst hv
   have p0 := (blk_cell P2.out 0).trans rfl
   have p1 := (blk_cell P2.out 1).trans rfl
   have p2 := (blk_cell P2.out 2).trans rfl
   have o0 := (blk_cell Q2.out 0).trans rfl
   have o1 := (blk_cell Q2.out 1).trans rfl
   have o2 := (blk_cell Q2.out 2).trans rfl
   have fo0 := blk_frozen Q2.out 0
   have fo1 := blk_frozen Q2.out 1
   have fo2 := blk_frozen Q2.out 2
   clear hlt
   go_wp2
   obtain ⟨wz, hwz⟩ : ∃ wz, wz = ((wr.setCell ⟨gR, 0, none⟩ (.int .i64 (W : Int))).setCell ⟨gR, 1, none⟩ (.int .i64 (Ht : Int))).setCell ⟨gR, 2, none⟩ (.slice Av n cv) := ⟨_, rfl⟩
   rw [← hwz]
   obtain ⟨hGz, hstz, hblz⟩ := put3 Q2.out hwz
   refine bodyPost_ret (results_ct rfl _ _ gR 31 #[.int .i64 (W : Int), .int .i64 (Ht : Int), .slice Av n cv] (0, 0) _ rfl hGz Try.underlying31 rfl (by kernel_rfl)) rfl ?_
   exact ⟨_, rfl, nat_move R2.out (fun k hk => hstz k (fun e => Kd.R_ne R2.out Q2.out (by decide) (by rw [← e]; exact hk.symm))), B2.out.trans (hblz _ GR.out)⟩
end Go.Proofs.Ytbbebhdcfopmmaa.A
end
section
set_option linter.unusedVariables false
set_option linter.unusedSimpArgs false
namespace Go.Proofs.Ytbbebhdcfopmmaa.A
open Go.RowKit Go.Proofs.YtbbebhdcfopmmaaW.PrintWords Go.Proofs.YtbbebhdcfopmmaaW.PrintLast Go.Proofs.YtbbebhdcfopmmaaW.PrintMore Go.Proofs.Ytbbebhdcfopmmaa.PCodecNames

theorem ok_of {x y : Int} {xs : List Nat} (h : checkE x y xs.length = 0) (hx : ∀ i, gt xs i < 4294967296) : ∃ W Ht : Nat, x = (W : Int) ∧ y = (Ht : Int) ∧ (Pl.mk W Ht xs).ok := by
 unfold checkE at h
 by_cases hs : sizeB x y = true
 ·rw [if_pos hs] at h
  by_cases hm : (xs.length : Int) = x * y
  ·obtain ⟨h1, h2, h3, h4, h5⟩ := sizeB_true hs
   obtain ⟨W, rfl⟩ : ∃ W : Nat, x = (W : Int) := ⟨x.toNat, by omega⟩
   obtain ⟨Ht, rfl⟩ : ∃ Ht : Nat, y = (Ht : Int) := ⟨y.toNat, by omega⟩
   have h6 : (((W * Ht : Nat)) : Int) = (W : Int) * (Ht : Int) := Int.natCast_mul _ _
   exact ⟨W, Ht, rfl, rfl, show 0 < W by omega, show 0 < Ht by omega, show W ≤ 1024 by omega, show Ht ≤ 1024 by omega, show W * Ht ≤ 65536 by omega, show xs.length = W * Ht by omega, hx⟩
  ·rw [if_neg hm] at h; exact absurd h (by decide)
 ·rw [if_neg hs] at h; exact absurd h (by decide)
/-- what Rests tells -/
def restsE (x y : Int) (xs : List Nat) : List Nat := if checkE x y xs.length = 0 then restsN xs x.toNat else []
/-- what Plane tells -/
def planeE (x y : Int) (xs : List Nat) : List Nat := if checkE x y xs.length = 0 then planeN xs x.toNat else []
def dimE (x y : Int) (n : Nat) (z : Int) : Int := if checkE x y n = 0 then z else 0
section
variable {x y : Int} {A : Option Addr} {cap : Nat} {xs : List Nat} {w : World}
theorem Rests_any (hC : (nat .u32).C w A xs.length xs) (hcap : xs.length ≤ cap) (hx : ∀ i, gt xs i < 4294967296) (hl : xs.length < 4611686018427387904) :
    Calls Try.prog 22 #[.agg #[.int .i64 x, .int .i64 y, .slice A xs.length cap]] w fun e w' => ∃ v, e = .returned (.tuple #[v, .int .i64 ((checkE x y xs.length : Nat) : Int)]) ∧ (nat .u32).R 24 w' w.heap.size (fun _ => True) v (restsE x y xs) ∧ Below w.heap.size w w' := by
 by_cases h : checkE x y xs.length = 0
 ·obtain ⟨W, Ht, rfl, rfl, hok⟩ := ok_of h hx
  unfold restsE
  rw [if_pos h, h]
  exact Rests_own (xs.length + 2) hC hcap (Rests_f hok (xs.length + 1) (Nat.le_refl _))
 ·unfold restsE
  rw [if_neg h]
  have hf : codec_Rests.f 1 x y (ints xs) = some ([], ((checkE x y xs.length : Nat) : Int)) := by
   unfold codec_Rests.f
   refine bnd (checkE_f x y (ints xs) (by rw [ints_length]; exact hl)) ?_
   rw [ints_length]
   exact ifn (by omega) rfl
  have h2 := codec_Rests.calls 1 x y A cap (ints xs) [] _ w (by rw [ints_length]; exact C_ints hC) (by rw [ints_length]; exact hcap) hf
  rw [ints_length] at h2
  refine h2.mono ?_
  rintro e w' ⟨v, rfl, hR, hb⟩
  exact ⟨v, rfl, R_nats (xs := []) hR, hb⟩
theorem rRests_any (hC : (nat .u32).C w A xs.length xs) (hx : ∀ i, gt xs i < 4294967296) (hl : xs.length < 4611686018427387904) :
    Calls Try.prog 23 #[.agg #[.int .i64 x, .int .i64 y, .slice A xs.length cap]] w fun e w' => ∃ v, e = .returned (.tuple #[v, .int .i64 ((checkE x y xs.length : Nat) : Int)]) ∧ (nat .u32).R 24 w' w.heap.size (fun _ => True) v (restsE x y xs) ∧ Below w.heap.size w w' := by
 by_cases h : checkE x y xs.length = 0
 ·obtain ⟨W, Ht, rfl, rfl, hok⟩ := ok_of h hx
  unfold restsE
  rw [if_pos h, h]
  exact rRests_ok W Ht A xs.length cap xs w hok rfl hC
 ·unfold restsE
  rw [if_neg h]
  refine (rRests_bad x y A xs.length cap w hl h).mono ?_
  rintro e w' ⟨rfl, hb⟩
  exact ⟨_, rfl, Kd.R_nil _ _ _ _ _, hb⟩
theorem Plane_any (hC : (nat .u32).C w A xs.length xs) (hcap : xs.length ≤ cap) (hx : ∀ i, gt xs i < 4294967296) (hl : xs.length < 4611686018427387904) :
    Calls Try.prog 24 #[.int .i64 x, .int .i64 y, .slice A xs.length cap] w fun e w' => ∃ v, e = .returned (.tuple #[.agg #[.int .i64 (dimE x y xs.length x), .int .i64 (dimE x y xs.length y), v], .int .i64 ((checkE x y xs.length : Nat) : Int)]) ∧ (nat .u32).R 24 w' w.heap.size (fun _ => True) v (planeE x y xs) ∧ Below w.heap.size w w' := by
 by_cases h : checkE x y xs.length = 0
 ·obtain ⟨W, Ht, rfl, rfl, hok⟩ := ok_of h hx
  unfold planeE dimE
  rw [if_pos h, if_pos h, if_pos h, h]
  exact Plane_own (xs.length + 2) hC hcap (Plane_f hok (xs.length + 1) (Nat.le_refl _))
 ·unfold planeE dimE
  rw [if_neg h, if_neg h, if_neg h]
  have hf : codec_Plane.f 1 x y (ints xs) = some (0, 0, [], ((checkE x y xs.length : Nat) : Int)) := by
   unfold codec_Plane.f
   refine bnd (checkE_f x y (ints xs) (by rw [ints_length]; exact hl)) ?_
   rw [ints_length]
   exact ifn (by omega) rfl
  have h2 := codec_Plane.calls 1 x y A cap (ints xs) 0 0 [] _ w (by rw [ints_length]; exact C_ints hC) (by rw [ints_length]; exact hcap) hf
  rw [ints_length] at h2
  refine h2.mono ?_
  rintro e w' ⟨v, rfl, hR, hb⟩
  exact ⟨v, rfl, R_nats (xs := []) hR, hb⟩
theorem rPlane_any (hC : (nat .u32).C w A xs.length xs) (hx : ∀ i, gt xs i < 4294967296) (hl : xs.length < 4611686018427387904) :
    Calls Try.prog 25 #[.int .i64 x, .int .i64 y, .slice A xs.length cap] w fun e w' => ∃ v, e = .returned (.tuple #[.agg #[.int .i64 (dimE x y xs.length x), .int .i64 (dimE x y xs.length y), v], .int .i64 ((checkE x y xs.length : Nat) : Int)]) ∧ (nat .u32).R 24 w' w.heap.size (fun _ => True) v (planeE x y xs) ∧ Below w.heap.size w w' := by
 by_cases h : checkE x y xs.length = 0
 ·obtain ⟨W, Ht, rfl, rfl, hok⟩ := ok_of h hx
  unfold planeE dimE
  rw [if_pos h, if_pos h, if_pos h, h]
  exact rPlane_ok W Ht A xs.length cap xs w hok rfl hC
 ·unfold planeE dimE
  rw [if_neg h, if_neg h, if_neg h]
  refine (rPlane_bad x y A xs.length cap w hl h).mono ?_
  rintro e w' ⟨rfl, hb⟩
  exact ⟨_, rfl, Kd.R_nil _ _ _ _ _, hb⟩
end

set_option maxHeartbeats 4000000 in
set_option maxRecDepth 100000 in
theorem Copy_calls (x y : Int) (A : Option Addr) (n cap : Nat) (xs : List Nat) (w : World) (hn : xs.length = n) (hC : (nat .u32).C w A n xs) (hl : n ≤ 35184372088832) :
    Calls Try.prog 21 #[.agg #[.int .i64 x, .int .i64 y, .slice A n cap]] w fun e w' => ∃ v, e = .returned (.agg #[.int .i64 x, .int .i64 y, v]) ∧ (nat .u32).R 24 w' w.heap.size (fun _ => True) v xs ∧ Below w.heap.size w w' := by
 have hu31 := Try.underlying31
 have HC := Aside0.mk hC
 have HN := Aside0.mk hn
 have HL : Aside0 ((([] : List Nat).length + n) * 4 ≤ 140737488355328) := ⟨by simp; omega⟩
 clear hC hl hn
 go_enter Try.func21, Try.ntmps21
 go_upto_region 1 with (first | ((with_reducible refine gate_dst (N := 1) rfl ?_); refine box_event ?hg (N := 1) ?hd (cs := #[.int .i64 x, .int .i64 y, .slice A n cap]) (t := 31) ?hr ?_; (case hd => rfl); (case hg => rfl); (case hr => first | (go_simp; done) | (go_simp; rfl)); intro gP hg_ w1 hm_ hb_; have P1 := Aside0.mk (hm_); have B1 := Aside0.mk (hb_); clear hm_ hb_ hg_) | ((with_reducible refine gate_dst (N := 2) rfl ?_); refine box_event ?hg (N := 2) ?hd (cs := #[.int .i64 0, .int .i64 0, .slice none 0 0]) (t := 31) ?hr ?_; (case hd => rfl); (case hg => rfl); (case hr => first | (go_simp; done) | (go_simp; rfl)); intro gR hg_ w2 hm_ hb_; have R2 := Aside0.mk (hm_); have P2 := Aside0.mk (blk_below P1.out hb_); have B2 := Aside0.mk (below_step B1.out hb_); have GR := Aside0.mk (show w.heap.size ≤ gR by rw [hg_]; exact below_size B1.out); clear hm_ hb_ hg_))
 have R3 := Aside0.mk (blk_drew R2.out)
 have P3 := Aside0.mk (blk_drew P2.out)
 have B3 := Aside0.mk (below_drew1 B2.out)
 clear R2 P2 B2 P1 B1
 refine start_ (n := 9) (S := fun w' => w'.cell? ⟨gP, 0, none⟩ = some (.int .i64 x) ∧ w'.cell? ⟨gP, 1, none⟩ = some (.int .i64 y) ∧ w'.cell? ⟨gP, 2, none⟩ = some (.slice A n cap)) (ds := [8]) #[ff_,ff_,ff_,ff_,ff_,ff_,ff_,ff_,ff_] (by kernel_rfl) rfl rfl ⟨(blk_cell P3.out 0).trans rfl, (blk_cell P3.out 1).trans rfl, (blk_cell P3.out 2).trans rfl⟩ (fun hHeld => ?_)
 generalize w2.drew = wd at *
 refine pure_ (i := 0) (N := some 3) (v := ?_) (a' := ?_) #[tt_,ff_,ff_,ff_,ff_,ff_,ff_,ff_,ff_] rfl rfl (by kernel_rfl) (fun _ _ _ h => h) (Or.inl ⟨by rfl, ?_⟩) ?_ ?_
 rotate_left
 ·intro w'
  go_simp
  with_reducible rfl
 rotate_left
 ·simp only [Act.put, List.setIfInBounds_toArray, List.set_cons_zero, List.set_cons_succ, i64_w, i32_w]
  rfl
 refine pure_ (i := 2) (N := some 5) (v := ?_) (a' := ?_) #[tt_,ff_,tt_,ff_,ff_,ff_,ff_,ff_,ff_] rfl rfl (by kernel_rfl) (fun _ _ _ h => h) (Or.inl ⟨by rfl, ?_⟩) ?_ ?_
 rotate_left
 ·intro w'
  go_simp
  with_reducible rfl
 rotate_left
 ·simp only [Act.put, List.setIfInBounds_toArray, List.set_cons_zero, List.set_cons_succ, i64_w, i32_w]
  rfl
 refine pure_ (i := 4) (N := some 7) (v := ?_) (a' := ?_) #[tt_,ff_,tt_,ff_,tt_,ff_,ff_,ff_,ff_] rfl rfl (by kernel_rfl) (fun _ _ _ h => h) (Or.inl ⟨by rfl, ?_⟩) ?_ ?_
 rotate_left
 ·intro w'
  go_simp
  with_reducible rfl
 rotate_left
 ·simp only [Act.put, List.setIfInBounds_toArray, List.set_cons_zero, List.set_cons_succ, i64_w, i32_w]
  rfl
 refine take_ (i := 1) (N := some 4) (v := ?_) (a' := ?_) #[tt_,tt_,tt_,ff_,tt_,ff_,ff_,ff_,ff_] rfl rfl (by kernel_rfl) (fun _ _ _ h => h) (Or.inl ⟨by rfl, ?_⟩) hHeld ?_ ?_
 rotate_left
 ·rintro w' ⟨s0, s1, s2⟩
  go_simp
  with_reducible rfl
 rotate_left
 ·simp only [Act.put, List.setIfInBounds_toArray, List.set_cons_zero, List.set_cons_succ, i64_w, i32_w]
  rfl
 refine take_ (i := 3) (N := some 6) (v := ?_) (a' := ?_) #[tt_,tt_,tt_,tt_,tt_,ff_,ff_,ff_,ff_] rfl rfl (by kernel_rfl) (fun _ _ _ h => h) (Or.inl ⟨by rfl, ?_⟩) hHeld ?_ ?_
 rotate_left
 ·rintro w' ⟨s0, s1, s2⟩
  go_simp
  with_reducible rfl
 rotate_left
 ·simp only [Act.put, List.setIfInBounds_toArray, List.set_cons_zero, List.set_cons_succ, i64_w, i32_w]
  rfl
 refine take_ (i := 5) (N := some 8) (v := ?_) (a' := ?_) #[tt_,tt_,tt_,tt_,tt_,tt_,ff_,ff_,ff_] rfl rfl (by kernel_rfl) (fun _ _ _ h => h) (Or.inl ⟨by rfl, ?_⟩) hHeld ?_ ?_
 rotate_left
 ·rintro w' ⟨s0, s1, s2⟩
  go_simp
  with_reducible rfl
 rotate_left
 ·simp only [Act.put, List.setIfInBounds_toArray, List.set_cons_zero, List.set_cons_succ, i64_w, i32_w]
  rfl
 refine one_ (i := 6) (N := some 9) #[tt_,tt_,tt_,tt_,tt_,tt_,tt_,ff_,ff_] rfl rfl (by kernel_rfl) (by decide) (fun K hK => ?_)
 refine Kd.R_append_rows_step (nat .u32) (Rr := (nat .u32).K wd) (w0 := w) w.heap.size (by rfl) (.const (.slice none 0 0)) (.tmp 8) 29 24 (.int .u32 0) 4 rfl Try.underlying29 info24 rfl (by decide) (by decide) (.slice none 0 0) [] xs A n cap (fun _ => True) (fun _ => False) rfl rfl (Kd.R_nil _ _ _ _ _) (Kd.C_below HC.out B3.out) (fun _ _ h => h) (fun _ hk => hk.elim) (fun _ _ => trivial) B3.out (below_size B3.out) HL.out ?_
 intro v7 w7 hR hB hg hat
 have hR' : (nat .u32).R 24 w7 w.heap.size (fun _ => True) v7 xs := hR
 obtain ⟨A7, c7, hv7⟩ := Kd.R_slice hR'
 rw [HN.out] at hv7
 subst hv7
 have R7 := Aside0.mk hR'
 have B7 := Aside0.mk hB
 have P7 := Aside0.mk (blk_grown P3.out hg (fun e => by simp [Value.ownBlock] at e))
 have Q7 := Aside0.mk (blk_grown R3.out hg (fun e => by simp [Value.ownBlock] at e))
 clear hR hR' hB hg hat
 have o0 := (blk_cell Q7.out 0).trans rfl
 have o1 := (blk_cell Q7.out 1).trans rfl
 have o2 := (blk_cell Q7.out 2).trans rfl
 have fo0 := blk_frozen Q7.out 0
 have fo1 := blk_frozen Q7.out 1
 have fo2 := blk_frozen Q7.out 2
 refine hK.out _ _ ⟨(blk_cell P7.out 0).trans rfl, (blk_cell P7.out 1).trans rfl, (blk_cell P7.out 2).trans rfl⟩ (fun hHeld => ?_)
 clear hK K
 refine norm_ (a' := ?_) ?_ ?_
 rotate_left
 ·show Act.put _ (some 9) _ = _
  simp only [Act.put, List.setIfInBounds_toArray, List.set_cons_zero, List.set_cons_succ, i64_w, i32_w]
  rfl
 refine pure_ (i := 7) (N := some 10) (v := ?_) (a' := ?_) #[tt_,tt_,tt_,tt_,tt_,tt_,tt_,tt_,ff_] rfl rfl (by kernel_rfl) (fun _ _ _ h => h) (Or.inl ⟨by rfl, ?_⟩) ?_ ?_
 rotate_left
 ·intro w'
  go_simp
  with_reducible rfl
 rotate_left
 ·simp only [Act.put, List.setIfInBounds_toArray, List.set_cons_zero, List.set_cons_succ, i64_w, i32_w]
  rfl
 refine last_ (i := 8) (N := none) #[tt_,tt_,tt_,tt_,tt_,tt_,tt_,tt_,tt_] rfl rfl (by kernel_rfl) (by decide) (fun K hK => ?_)
 refine skip_ (w1 := ?_) (by rfl) rfl ?_ ?_
 rotate_left
 ·go_simp
  rfl
 refine hK.out _ _ ?_
 clear hK K
 refine done_ (by kernel_rfl) ?_
 obtain ⟨wz, hwz⟩ : ∃ wz, wz = ((w7.setCell ⟨gR, 0, none⟩ (.int .i64 x)).setCell ⟨gR, 1, none⟩ (.int .i64 y)).setCell ⟨gR, 2, none⟩ (.slice A7 n c7) := ⟨_, rfl⟩
 rw [← hwz]
 obtain ⟨hGz, hstz, hblz⟩ := put3 Q7.out hwz
 go_wp2
 refine bodyPost_ret (results_cell_row rfl _ _ gR 31 #[.int .i64 x, .int .i64 y, .slice A7 n c7] (0, 0) _ rfl hGz Try.underlying31 rfl (by kernel_rfl)) rfl ?_
 exact ⟨_, rfl, nat_move R7.out (fun k hk => hstz k (fun e => Kd.R_ne R7.out Q7.out (by decide) (by rw [← e]; exact hk.symm))), B7.out.trans (hblz _ GR.out)⟩
end Go.Proofs.Ytbbebhdcfopmmaa.A
end
section
set_option linter.unusedVariables false
set_option linter.unusedSimpArgs false
namespace Go.Proofs.Ytbbebhdcfopmmaa.A
open Go.RowKit Go.Proofs.YtbbebhdcfopmmaaW.PrintWords Go.Proofs.YtbbebhdcfopmmaaW.PrintLast Go.Proofs.YtbbebhdcfopmmaaW.PrintMore Go.Proofs.Ytbbebhdcfopmmaa.PCodecNames
section
variable {x y : Int} {A B : Option Addr} {cap c d : Nat} {xs ra : List Nat} {ea : Nat} {d0 d1 : Int} {w : World}
theorem Rests_to (hra : restsE x y xs = ra) (hea : checkE x y xs.length = ea) (hC : (nat .u32).C w A xs.length xs) (hcap : xs.length ≤ cap) (hx : ∀ i, gt xs i < 4294967296) (hl : xs.length < 4611686018427387904) :
    Calls Try.prog 22 #[.agg #[.int .i64 x, .int .i64 y, .slice A xs.length cap]] w fun e w' => ∃ A' c', e = .returned (.tuple #[.slice A' ra.length c', .int .i64 (ea : Int)]) ∧ ra.length ≤ c' ∧ (nat .u32).C w' A' ra.length ra ∧ Below w.heap.size w w' := by
 refine (Rests_any hC hcap hx hl).mono ?_
 rintro e w' ⟨v, rfl, hR, hb⟩
 rw [hra] at hR
 rw [hea]
 obtain ⟨A', c', rfl, h1, h2⟩ := Kd.R_reads hR
 exact ⟨A', c', rfl, h1, h2, hb⟩
theorem rRests_to (hra : restsE x y xs = ra) (hea : checkE x y xs.length = ea) (hC : (nat .u32).C w A xs.length xs) (hx : ∀ i, gt xs i < 4294967296) (hl : xs.length < 4611686018427387904) :
    Calls Try.prog 23 #[.agg #[.int .i64 x, .int .i64 y, .slice A xs.length cap]] w fun e w' => ∃ A' c', e = .returned (.tuple #[.slice A' ra.length c', .int .i64 (ea : Int)]) ∧ ra.length ≤ c' ∧ (nat .u32).C w' A' ra.length ra ∧ Below w.heap.size w w' := by
 refine (rRests_any hC hx hl).mono ?_
 rintro e w' ⟨v, rfl, hR, hb⟩
 rw [hra] at hR
 rw [hea]
 obtain ⟨A', c', rfl, h1, h2⟩ := Kd.R_reads hR
 exact ⟨A', c', rfl, h1, h2, hb⟩
theorem Plane_to (hra : planeE x y xs = ra) (hea : checkE x y xs.length = ea) (h0 : dimE x y xs.length x = d0) (h1 : dimE x y xs.length y = d1) (hC : (nat .u32).C w A xs.length xs) (hcap : xs.length ≤ cap) (hx : ∀ i, gt xs i < 4294967296) (hl : xs.length < 4611686018427387904) :
    Calls Try.prog 24 #[.int .i64 x, .int .i64 y, .slice A xs.length cap] w fun e w' => ∃ A' c', e = .returned (.tuple #[.agg #[.int .i64 d0, .int .i64 d1, .slice A' ra.length c'], .int .i64 (ea : Int)]) ∧ ra.length ≤ c' ∧ (nat .u32).C w' A' ra.length ra ∧ Below w.heap.size w w' := by
 refine (Plane_any hC hcap hx hl).mono ?_
 rintro e w' ⟨v, rfl, hR, hb⟩
 rw [hra] at hR
 rw [hea, h0, h1]
 obtain ⟨A', c', rfl, h1, h2⟩ := Kd.R_reads hR
 exact ⟨A', c', rfl, h1, h2, hb⟩
theorem rPlane_to (hra : planeE x y xs = ra) (hea : checkE x y xs.length = ea) (h0 : dimE x y xs.length x = d0) (h1 : dimE x y xs.length y = d1) (hC : (nat .u32).C w A xs.length xs) (hx : ∀ i, gt xs i < 4294967296) (hl : xs.length < 4611686018427387904) :
    Calls Try.prog 25 #[.int .i64 x, .int .i64 y, .slice A xs.length cap] w fun e w' => ∃ A' c', e = .returned (.tuple #[.agg #[.int .i64 d0, .int .i64 d1, .slice A' ra.length c'], .int .i64 (ea : Int)]) ∧ ra.length ≤ c' ∧ (nat .u32).C w' A' ra.length ra ∧ Below w.heap.size w w' := by
 refine (rPlane_any hC hx hl).mono ?_
 rintro e w' ⟨v, rfl, hR, hb⟩
 rw [hra] at hR
 rw [hea, h0, h1]
 obtain ⟨A', c', rfl, h1, h2⟩ := Kd.R_reads hR
 exact ⟨A', c', rfl, h1, h2, hb⟩
theorem words_self (hA : (nat .u32).C w A xs.length xs) (hB : (nat .u32).C w B xs.length xs) (hc : xs.length ≤ c) (hd : xs.length ≤ d) (hl : xs.length < 4611686018427387904) :
    Calls Try.prog 26 #[.slice A xs.length c, .slice B xs.length d] w fun e w' => e = .returned (.bool true) ∧ Below w.heap.size w w' := by
 refine (words_nat A B c d xs xs w hA hB hc hd hl).mono ?_
 rintro e w' ⟨rfl, hd⟩
 exact ⟨by rw [decide_eq_true rfl], Drawn0.to_below hd⟩
theorem plane_self (hA : (nat .u32).C w A xs.length xs) (hB : (nat .u32).C w B xs.length xs) (hc : xs.length ≤ c) (hd : xs.length ≤ d) (hl : xs.length < 4611686018427387904) :
    Calls Try.prog 27 #[.agg #[.int .i64 x, .int .i64 y, .slice A xs.length c], .agg #[.int .i64 x, .int .i64 y, .slice B xs.length d]] w fun e w' => e = .returned (.bool true) ∧ Below w.heap.size w w' := by
 have h := halidehelp_Plane.calls (xs.length + 1) x y A c (ints xs) x y B d (ints xs) true w (by rw [ints_length]; exact C_ints hA) (by rw [ints_length]; exact hc) (by rw [ints_length]; exact C_ints hB) (by rw [ints_length]; exact hd) (by
  rw [plane_f _ (by rw [ints_length]; omega) (by rw [ints_length]; exact hl)]
  simp)
 rw [ints_length] at h
 exact h
end

set_option maxHeartbeats 16000000 in
set_option maxRecDepth 100000 in
theorem codecRests (x y : Int) (A : Option Addr) (cap : Nat) (xs : List Nat) (u v : Int) (D : Option Addr) (capd : Nat) (rs : List Nat) (w : World) (hC : (nat .u32).C w A xs.length xs) (hcap : xs.length ≤ cap) (hx : ∀ i, gt xs i < 4294967296) (hD : (nat .u32).C w D rs.length rs) (hcapd : rs.length ≤ capd) (hr : ∀ i, gt rs i < 4294967296) :
    Calls Try.prog 5 #[.agg #[.int .i64 x, .int .i64 y, .slice A xs.length cap], .int .i64 u, .int .i64 v, .slice D rs.length capd] w fun e w' => e = .returned (.bool true) ∧ Below w.heap.size w w' := by
 have hu31 := Try.underlying31
 have HC := Aside0.mk hC
 have HCAP := Aside0.mk hcap
 have HX := Aside0.mk hx
 have HD := Aside0.mk hD
 have HCAPD := Aside0.mk hcapd
 have HR := Aside0.mk hr
 clear hC hcap hx hD hcapd hr
 by_cases h1 : 3000 < xs.length
 ·have t1 : decide (3000 < xs.length) = true := decide_eq_true h1
  have t1' : decide ((3000 : Int) < (xs.length : Int)) = true := decide_eq_true (by omega)
  clear h1
  go_enter Try.func5, Try.ntmps5
  go_wp2_with (first | ((with_reducible refine gate_dst (N := 4) rfl ?_); refine box_event ?hg (N := 4) ?hd (cs := #[.int .i64 x, .int .i64 y, .slice A xs.length cap]) (t := 31) ?hr ?_; (case hd => rfl); (case hg => rfl); (case hr => first | (go_simp; done) | (go_simp; rfl)); intro gp hg_ w1 hm_ hb_; have PP := Aside0.mk (hm_); have BB := Aside0.mk (hb_); have c0 := (blk_cell PP.out 0).trans rfl; have c1 := (blk_cell PP.out 1).trans rfl; have c2 := (blk_cell PP.out 2).trans rfl; clear hm_ hb_ hg_) | (go_at_call 15; refine (known_calls _).mono ?_; rintro e w2 ⟨rfl, hb⟩; have PP := Aside0.mk (blk_below PP.out hb); have BB := Aside0.mk (below_step BB.out hb); have c0 := (blk_cell PP.out 0).trans rfl; have c1 := (blk_cell PP.out 1).trans rfl; have c2 := (blk_cell PP.out 2).trans rfl; clear hb))
  go_ret
  exact ⟨rfl, BB.out⟩
 have t1 : decide (3000 < xs.length) = false := decide_eq_false h1
 have t1' : decide ((3000 : Int) < (xs.length : Int)) = false := decide_eq_false (by omega)
 by_cases h2 : 3000 < rs.length
 ·have t2 : decide (3000 < rs.length) = true := decide_eq_true h2
  have t2' : decide ((3000 : Int) < (rs.length : Int)) = true := decide_eq_true (by omega)
  clear h1 h2
  go_enter Try.func5, Try.ntmps5
  go_wp2_with (first | ((with_reducible refine gate_dst (N := 4) rfl ?_); refine box_event ?hg (N := 4) ?hd (cs := #[.int .i64 x, .int .i64 y, .slice A xs.length cap]) (t := 31) ?hr ?_; (case hd => rfl); (case hg => rfl); (case hr => first | (go_simp; done) | (go_simp; rfl)); intro gp hg_ w1 hm_ hb_; have PP := Aside0.mk (hm_); have BB := Aside0.mk (hb_); have c0 := (blk_cell PP.out 0).trans rfl; have c1 := (blk_cell PP.out 1).trans rfl; have c2 := (blk_cell PP.out 2).trans rfl; clear hm_ hb_ hg_) | (go_at_call 15; refine (known_calls _).mono ?_; rintro e w2 ⟨rfl, hb⟩; have PP := Aside0.mk (blk_below PP.out hb); have BB := Aside0.mk (below_step BB.out hb); have c0 := (blk_cell PP.out 0).trans rfl; have c1 := (blk_cell PP.out 1).trans rfl; have c2 := (blk_cell PP.out 2).trans rfl; clear hb))
  go_ret
  exact ⟨rfl, BB.out⟩
 have t2 : decide (3000 < rs.length) = false := decide_eq_false h2
 have t2' : decide ((3000 : Int) < (rs.length : Int)) = false := decide_eq_false (by omega)
 have HLX : Aside0 (xs.length ≤ 35184372088832) := ⟨by omega⟩
 have HLR : Aside0 ((([] : List Nat).length + rs.length) * 4 ≤ 140737488355328) := ⟨by simp; omega⟩
 have HLX2 : Aside0 (xs.length < 4611686018427387904) := ⟨by omega⟩
 have HLR2 : Aside0 (rs.length < 4611686018427387904) := ⟨by omega⟩
 obtain ⟨ra, hra⟩ : ∃ l, restsE x y xs = l := ⟨_, rfl⟩
 have HRA := Aside0.mk hra
 have HLA : Aside0 (ra.length < 4611686018427387904) := ⟨by rw [← hra]; unfold restsE; split; (unfold restsN; rw [restsTo_length]; omega); simp⟩
 obtain ⟨pa, hpa⟩ : ∃ l, planeE u v rs = l := ⟨_, rfl⟩
 have HPA := Aside0.mk hpa
 have HLP : Aside0 (pa.length < 4611686018427387904) := ⟨by rw [← hpa]; unfold planeE; split; (unfold planeN; rw [planeTo_length]; omega); simp⟩
 obtain ⟨ea, hea⟩ : ∃ e, checkE x y xs.length = e := ⟨_, rfl⟩
 have HEA := Aside0.mk hea
 obtain ⟨eb, heb⟩ : ∃ e, checkE u v rs.length = e := ⟨_, rfl⟩
 have HEB := Aside0.mk heb
 obtain ⟨d0, hd0⟩ : ∃ e, dimE u v rs.length u = e := ⟨_, rfl⟩
 have HD0 := Aside0.mk hd0
 obtain ⟨d1, hd1⟩ : ∃ e, dimE u v rs.length v = e := ⟨_, rfl⟩
 have HD1 := Aside0.mk hd1
 clear h1 h2 hra hpa hea heb hd0 hd1
 go_enter Try.func5, Try.ntmps5
 go_upto_region 6 with (first | ((with_reducible refine gate_dst (N := 4) rfl ?_); refine box_event ?hg (N := 4) ?hd (cs := #[.int .i64 x, .int .i64 y, .slice A xs.length cap]) (t := 31) ?hr ?_; (case hd => rfl); (case hg => rfl); (case hr => first | (go_simp; done) | (go_simp; rfl)); intro gp hg_ w1 hm_ hb_; have PP := Aside0.mk (hm_); have BB := Aside0.mk (hb_); have c0 := (blk_cell PP.out 0).trans rfl; have c1 := (blk_cell PP.out 1).trans rfl; have c2 := (blk_cell PP.out 2).trans rfl; clear hm_ hb_ hg_) | (go_at_call 15; refine (known_calls _).mono ?_; rintro e w2 ⟨rfl, hb⟩; have PP := Aside0.mk (blk_below PP.out hb); have BB := Aside0.mk (below_step BB.out hb); have c0 := (blk_cell PP.out 0).trans rfl; have c1 := (blk_cell PP.out 1).trans rfl; have c2 := (blk_cell PP.out 2).trans rfl; clear hb) | (go_at_call 21; with_reducible refine (Copy_calls x y A xs.length cap xs _ rfl (Kd.C_below HC.out BB.out) HLX.out).mono ?_; rintro e w3 ⟨v3, rfl, hR, hb⟩; obtain ⟨Ai, ci, rfl, hci, hCi⟩ := Kd.R_reads hR; have CI := Aside0.mk hCi; have HCI := Aside0.mk hci; have PP := Aside0.mk (blk_below PP.out hb); have BB := Aside0.mk (below_step BB.out hb); clear hR hb hci hCi) | ((with_reducible refine gate_builtin (b := .append) (xs := #[.const (.slice none 0 0), .tmp 32]) rfl ?_); at_builtin; refine Kd.R_append_row (fun x : Nat => Value.int .u32 (x : Int)) 0 (h1 := fun _ => rfl) (w0 := w) w.heap.size rfl (.const (.slice none 0 0)) (.tmp 32) 29 24 (.int .u32 0) 4 rfl Try.underlying29 info24 rfl (by decide) (.slice none 0 0) [] rs D rs.length capd (fun _ => True) rfl rfl (fun _ _ => trivial) (Kd.R_nil _ _ _ _ _) (Kd.C_below HD.out BB.out) BB.out ?aS ?aL ?_; (case aS => exact below_size BB.out); (case aL => exact HLR.out); intro v4 w4 hR hB hg hat; have hR' : (nat .u32).R 24 w4 w.heap.size (fun _ => True) v4 rs := hR; obtain ⟨Ar, cr, rfl, hcr, hCr⟩ := Kd.R_reads hR'; have CR := Aside0.mk hCr; have HCR := Aside0.mk hcr; have PP := Aside0.mk (blk_grown PP.out hg (fun e => by simp [Value.ownBlock] at e)); have CI := Aside0.mk (Kd.C_below CI.out (grown_none hg)); have BB := Aside0.mk hB; clear hR hR' hB hg hat hcr hCr) | ((with_reducible refine gate_dst (N := 9) rfl ?_); refine box_event ?hg (N := 9) ?hd (cs := #[.int .i64 0, .int .i64 0, .slice none 0 0]) (t := 31) ?hr ?_; (case hd => rfl); (case hg => rfl); (case hr => first | (go_simp; done) | (go_simp; rfl)); intro gi hg_ w5 hm_ hb_; have X_ := Aside0.mk (put3 (x := .int .i64 x) (y := .int .i64 y) (z := .slice Ai xs.length ci) hm_ rfl); have HB_ := (show Below w4.heap.size w4 w5 from hb_).trans (X_.out.2.2 _ (by rw [hg_]; exact Nat.le_refl _)); have CI := Aside0.mk (Kd.C_below CI.out HB_); have CR := Aside0.mk (Kd.C_below CR.out HB_); have PP := Aside0.mk (blk_below PP.out HB_); have BB := Aside0.mk (below_step BB.out HB_); have M_ := Aside0.mk hm_; have o0 := (blk_cell M_.out 0).trans rfl; have o1 := (blk_cell M_.out 1).trans rfl; have o2 := (blk_cell M_.out 2).trans rfl; have fo0 := blk_frozen M_.out 0; have fo1 := blk_frozen M_.out 1; have fo2 := blk_frozen M_.out 2; have PI := Aside0.mk (X_.out.1); clear hm_ hb_ hg_ X_ HB_ M_))
 generalize ((w5.setCell ⟨gi, 0, none⟩ (.int .i64 x)).setCell ⟨gi, 1, none⟩ (.int .i64 y)).setCell ⟨gi, 2, none⟩ (.slice Ai xs.length ci) = w6 at *
 clear c0 c1 c2 o0 o1 o2 fo0 fo1 fo2
 have i0 := (blk_cell PI.out 0).trans rfl
 have i1 := (blk_cell PI.out 1).trans rfl
 have i2 := (blk_cell PI.out 2).trans rfl
 go_upto_region 7 with (first | (go_at_call 22; with_reducible refine (Rests_to HRA.out HEA.out CI.out HCI.out HX.out HLX2.out).mono ?_; rintro e w7 ⟨A7, c7, rfl, hc_, hC_, hb⟩; have CI := Aside0.mk (Kd.C_below CI.out hb); have CR := Aside0.mk (Kd.C_below CR.out hb); have PP := Aside0.mk (blk_below PP.out hb); have PI := Aside0.mk (blk_below PI.out hb); have BB := Aside0.mk (below_step BB.out hb); have CA7 := Aside0.mk hC_; have HA7 := Aside0.mk hc_; clear hc_ hC_ hb))
 clear i0 i1 i2
 have p0 := (blk_cell PP.out 0).trans rfl
 have p1 := (blk_cell PP.out 1).trans rfl
 have p2 := (blk_cell PP.out 2).trans rfl
 go_upto_region 8 with (first | (go_at_call 23; with_reducible refine (rRests_to HRA.out HEA.out (Kd.C_below HC.out BB.out) HX.out HLX2.out).mono ?_; rintro e w8 ⟨A8, c8, rfl, hc_, hC_, hb⟩; have CI := Aside0.mk (Kd.C_below CI.out hb); have CR := Aside0.mk (Kd.C_below CR.out hb); have CA7 := Aside0.mk (Kd.C_below CA7.out hb); have PP := Aside0.mk (blk_below PP.out hb); have PI := Aside0.mk (blk_below PI.out hb); have BB := Aside0.mk (below_step BB.out hb); have CA8 := Aside0.mk hC_; have HA8 := Aside0.mk hc_; clear hc_ hC_ hb))
 clear p0 p1 p2
 go_upto_region 9 with (first | (go_at_call 24; with_reducible refine (Plane_to HPA.out HEB.out HD0.out HD1.out CR.out HCR.out HR.out HLR2.out).mono ?_; rintro e w9 ⟨A9, c9, rfl, hc_, hC_, hb⟩; have CI := Aside0.mk (Kd.C_below CI.out hb); have CR := Aside0.mk (Kd.C_below CR.out hb); have CA7 := Aside0.mk (Kd.C_below CA7.out hb); have CA8 := Aside0.mk (Kd.C_below CA8.out hb); have PP := Aside0.mk (blk_below PP.out hb); have PI := Aside0.mk (blk_below PI.out hb); have BB := Aside0.mk (below_step BB.out hb); have CA9 := Aside0.mk hC_; have HA9 := Aside0.mk hc_; clear hc_ hC_ hb) | ((with_reducible refine gate_dst (N := 15) rfl ?_); refine box_event ?hg (N := 15) ?hd (cs := #[.int .i64 0, .int .i64 0, .slice none 0 0]) (t := 31) ?hr ?_; (case hd => rfl); (case hg => rfl); (case hr => first | (go_simp; done) | (go_simp; rfl)); intro g15 hg_ w10 hm_ hb_; have X_ := Aside0.mk (put3 (x := .int .i64 d0) (y := .int .i64 d1) (z := .slice A9 pa.length c9) hm_ rfl); have HB_ := (show Below w9.heap.size w9 w10 from hb_).trans (X_.out.2.2 _ (by rw [hg_]; exact Nat.le_refl _)); have CI := Aside0.mk (Kd.C_below CI.out HB_); have CR := Aside0.mk (Kd.C_below CR.out HB_); have CA7 := Aside0.mk (Kd.C_below CA7.out HB_); have CA8 := Aside0.mk (Kd.C_below CA8.out HB_); have CA9 := Aside0.mk (Kd.C_below CA9.out HB_); have PP := Aside0.mk (blk_below PP.out HB_); have PI := Aside0.mk (blk_below PI.out HB_); have BB := Aside0.mk (below_step BB.out HB_); have M_ := Aside0.mk hm_; have o0 := (blk_cell M_.out 0).trans rfl; have o1 := (blk_cell M_.out 1).trans rfl; have o2 := (blk_cell M_.out 2).trans rfl; have fo0 := blk_frozen M_.out 0; have fo1 := blk_frozen M_.out 1; have fo2 := blk_frozen M_.out 2; have P15 := Aside0.mk (X_.out.1); clear hm_ hb_ hg_ X_ HB_ M_))
 generalize ((w10.setCell ⟨g15, 0, none⟩ (.int .i64 d0)).setCell ⟨g15, 1, none⟩ (.int .i64 d1)).setCell ⟨g15, 2, none⟩ (.slice A9 pa.length c9) = w12 at *
 clear o0 o1 o2 fo0 fo1 fo2
 go_upto_region 10 with (first | (go_at_call 25; with_reducible refine (rPlane_to HPA.out HEB.out HD0.out HD1.out (Kd.C_below HD.out BB.out) HR.out HLR2.out).mono ?_; rintro e w13 ⟨A13, c13, rfl, hc_, hC_, hb⟩; have CI := Aside0.mk (Kd.C_below CI.out hb); have CR := Aside0.mk (Kd.C_below CR.out hb); have CA7 := Aside0.mk (Kd.C_below CA7.out hb); have CA8 := Aside0.mk (Kd.C_below CA8.out hb); have CA9 := Aside0.mk (Kd.C_below CA9.out hb); have PP := Aside0.mk (blk_below PP.out hb); have PI := Aside0.mk (blk_below PI.out hb); have P15 := Aside0.mk (blk_below P15.out hb); have BB := Aside0.mk (below_step BB.out hb); have CA13 := Aside0.mk hC_; have HA13 := Aside0.mk hc_; clear hc_ hC_ hb) | ((with_reducible refine gate_dst (N := 17) rfl ?_); refine box_event ?hg (N := 17) ?hd (cs := #[.int .i64 0, .int .i64 0, .slice none 0 0]) (t := 31) ?hr ?_; (case hd => rfl); (case hg => rfl); (case hr => first | (go_simp; done) | (go_simp; rfl)); intro g17 hg_ w14 hm_ hb_; have X_ := Aside0.mk (put3 (x := .int .i64 d0) (y := .int .i64 d1) (z := .slice A13 pa.length c13) hm_ rfl); have HB_ := (show Below w13.heap.size w13 w14 from hb_).trans (X_.out.2.2 _ (by rw [hg_]; exact Nat.le_refl _)); have CI := Aside0.mk (Kd.C_below CI.out HB_); have CR := Aside0.mk (Kd.C_below CR.out HB_); have CA7 := Aside0.mk (Kd.C_below CA7.out HB_); have CA8 := Aside0.mk (Kd.C_below CA8.out HB_); have CA9 := Aside0.mk (Kd.C_below CA9.out HB_); have CA13 := Aside0.mk (Kd.C_below CA13.out HB_); have PP := Aside0.mk (blk_below PP.out HB_); have PI := Aside0.mk (blk_below PI.out HB_); have P15 := Aside0.mk (blk_below P15.out HB_); have BB := Aside0.mk (below_step BB.out HB_); have M_ := Aside0.mk hm_; have o0 := (blk_cell M_.out 0).trans rfl; have o1 := (blk_cell M_.out 1).trans rfl; have o2 := (blk_cell M_.out 2).trans rfl; have fo0 := blk_frozen M_.out 0; have fo1 := blk_frozen M_.out 1; have fo2 := blk_frozen M_.out 2; have P17 := Aside0.mk (X_.out.1); clear hm_ hb_ hg_ X_ HB_ M_))
 generalize ((w14.setCell ⟨g17, 0, none⟩ (.int .i64 d0)).setCell ⟨g17, 1, none⟩ (.int .i64 d1)).setCell ⟨g17, 2, none⟩ (.slice A13 pa.length c13) = w15 at *
 clear o0 o1 o2 fo0 fo1 fo2
 go_wp2_with (first | (have hn := K3; clear hn; go_at_call 26; with_reducible refine (words_self CR.out (Kd.C_below HD.out BB.out) HCR.out HCAPD.out HLR2.out).mono ?_; rintro e w19 ⟨rfl, hb⟩; have BB := Aside0.mk (below_step BB.out hb); have K4 := True.intro; clear hb) | (have hn := K2; clear hn; go_at_call 27; with_reducible refine (plane_self CI.out (Kd.C_below HC.out BB.out) HCI.out HCAP.out HLX2.out).mono ?_; rintro e w18 ⟨rfl, hb⟩; have CR := Aside0.mk (Kd.C_below CR.out hb); have BB := Aside0.mk (below_step BB.out hb); have K3 := True.intro; clear p0 p1 p2 i0 i1 i2; clear hb) | (have hn := K1; clear hn; go_at_call 27; with_reducible refine (plane_self CA9.out CA13.out HA9.out HA13.out HLP.out).mono ?_; rintro e w17 ⟨rfl, hb⟩; have CI := Aside0.mk (Kd.C_below CI.out hb); have CR := Aside0.mk (Kd.C_below CR.out hb); have PP := Aside0.mk (blk_below PP.out hb); have PI := Aside0.mk (blk_below PI.out hb); have BB := Aside0.mk (below_step BB.out hb); have K2 := True.intro; clear q0 q1 q2 r0 r1 r2; have i0 := (blk_cell PI.out 0).trans rfl; have i1 := (blk_cell PI.out 1).trans rfl; have i2 := (blk_cell PI.out 2).trans rfl; have p0 := (blk_cell PP.out 0).trans rfl; have p1 := (blk_cell PP.out 1).trans rfl; have p2 := (blk_cell PP.out 2).trans rfl; clear hb) | (go_at_call 26; with_reducible refine (words_self CA7.out CA8.out HA7.out HA8.out HLA.out).mono ?_; rintro e w16 ⟨rfl, hb⟩; have CI := Aside0.mk (Kd.C_below CI.out hb); have CR := Aside0.mk (Kd.C_below CR.out hb); have CA9 := Aside0.mk (Kd.C_below CA9.out hb); have CA13 := Aside0.mk (Kd.C_below CA13.out hb); have PP := Aside0.mk (blk_below PP.out hb); have PI := Aside0.mk (blk_below PI.out hb); have P15 := Aside0.mk (blk_below P15.out hb); have P17 := Aside0.mk (blk_below P17.out hb); have BB := Aside0.mk (below_step BB.out hb); have K1 := True.intro; have q0 := (blk_cell P15.out 0).trans rfl; have q1 := (blk_cell P15.out 1).trans rfl; have q2 := (blk_cell P15.out 2).trans rfl; have r0 := (blk_cell P17.out 0).trans rfl; have r1 := (blk_cell P17.out 1).trans rfl; have r2 := (blk_cell P17.out 2).trans rfl; clear hb))
 go_ret
 exact ⟨rfl, BB.out⟩
end Go.Proofs.Ytbbebhdcfopmmaa.A
end
section
-- PRINTED WORDS (module Derived/Print/Sized.lean): go-gate-2's, for the rows of laws over slices: an AI agent of Go's test side, Tue Nov 17 2026; no person has read it. Lean checks it.
namespace Go.Proofs.YtbbebhdcfopmmaaW.PrintWords
open Go.ChangeShapes Go.WideShapes
/-- A row's slice of whole numbers is no longer than its weight allows. -/
theorem sized_ints {H : Type} {enc : TypeId × Value → H} {P : Program} {W : World} {base : Nat} {spare : Nat → Bool} {held : Bool} {t e : TypeId} {k : IntKind} {a : Option Addr} {len cap : Nat} {d : DataW H} {ps : List MemPlace} {ts : List TypeId} {ds : List (DataW H)} {j : Nat}
    (hsz : (DataW.weightsEach P ts ds).all (· ≤ reachBytes) = true) (ht : ts[j]? = some t) (hd : ds[j]? = some d) (hu : P.underlying t = some (.slice e)) (he : P.underlying e = some (.int k)) (hc : P.cellsOf e = 1) {B : Nat} (hB : P.bytesOf e = B)
    (h : DataW.Trod enc P W base spare held t (.slice a len cap) d ps) : len * B ≤ 140737488351232 := by
 obtain ⟨fuel, hf⟩ := h
 rcases open_ints hu he hc hf with ⟨hcs, _⟩ | ⟨x, l, c, zs, hcs, _, hl, _, hz, hx, _, _⟩
 ·simp [Value.cells] at hcs
  obtain ⟨rfl, rfl, rfl⟩ := hcs
  simp
 ·simp [Value.cells] at hcs
  obtain ⟨rfl, rfl, rfl⟩ := hcs
  obtain ⟨hx, _⟩ := Prod.mk.inj hx
  subst hx
  have z := sized_slice hsz ht hd hu
  rw [hB] at z
  have hl2 : len ≤ zs.length := by
   rw [hz]
   split
   ·exact hl
   ·exact Nat.le_refl _
  have h1 : (lits (H := H) k (zs.take len)).length + (lits (H := H) k (zs.drop len)).length = zs.length := by
   simp [lits]
   omega
  rw [h1] at z
  exact Nat.le_trans (Nat.mul_le_mul_right _ hl2) z
end Go.Proofs.YtbbebhdcfopmmaaW.PrintWords
end
