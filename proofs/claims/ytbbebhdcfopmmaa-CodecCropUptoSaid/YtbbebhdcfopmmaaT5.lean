import Derived.Test.YtbbebhdcfopmmaaT4
import Derived.Deep.Cut
import Derived.Deep.Slices
import Derived.Lib.SlBytesConst
import Derived.Lib.SmallJoins
import Derived.Test.YtbbebhdcfopmmaaRows
section
set_option linter.unusedVariables false
set_option linter.unusedSimpArgs false
namespace Go.Proofs.Ytbbebhdcfopmmaa.A
open Go.RowKit Go.Proofs.YtbbebhdcfopmmaaW.PrintWords Go.Proofs.YtbbebhdcfopmmaaW.PrintLast Go.Proofs.YtbbebhdcfopmmaaW.PrintMore Go.Proofs.Ytbbebhdcfopmmaa.PCodecNames

set_option maxHeartbeats 4000000 in
set_option maxRecDepth 100000 in
theorem Region_bad (A : Option Addr) (cap : Nat) (b : List Nat) (X0 Y0 X1 Y1 : Int) (w : World) (hC : (nat .u8).C w A b.length b) (hcap : b.length ≤ cap) (h8 : ∀ i, gt b i < 256) (hl : b.length < 4611686018427387904) (he : openE b ≠ 0) :
    Calls Try.prog 40 #[.slice A b.length cap, .agg #[.int .i64 X0, .int .i64 Y0, .int .i64 X1, .int .i64 Y1]] w fun e w1 => e = .returned (.tuple #[.agg #[.int .i64 0, .slice none 0 0], .slice none 0 0, .int .i64 ((openE b : Nat) : Int)]) ∧ Below w.heap.size w w1 := by
 have hu121 := Try.underlying121
 have hu60 := Try.underlying60
 have hu73 := Try.underlying73
 have hu105 := Try.underlying105
 obtain ⟨z, hz⟩ : ∃ z, z = openE b := ⟨_, rfl⟩
 have t1 : ((z : Int) != 0) = true := by rw [bne_iff_ne]; omega
 have t2 : (z != 0) = true := by rw [bne_iff_ne]; omega
 have HNE : Aside0 (openE b ≠ 0) := ⟨he⟩
 have HZ := Aside0.mk hz
 have HC := Aside0.mk hC
 have HCAP := Aside0.mk hcap
 have H8 := Aside0.mk h8
 have HL := Aside0.mk hl
 rw [← hz]
 clear hz hC hcap h8 hl he
 go_enter Try.func40, Try.ntmps40
 go_wp2_with (first | ((with_reducible refine gate_dst (N := 3) rfl ?_); refine box_event ?hg (N := 3) ?hd (cs := #[.int .i64 X0, .int .i64 Y0, .int .i64 X1, .int .i64 Y1]) (t := 73) ?hr ?_; (case hd => rfl); (case hg => rfl); (case hr => first | (go_simp; done) | (go_simp; rfl)); intro gr hg_ w_0 hm_ hb_; have G0 := Aside0.mk (hm_); have B0 := Aside0.mk (hb_); clear hm_ hb_ hg_) | ((with_reducible refine gate_dst (N := 4) rfl ?_); refine box_event ?hg (N := 4) ?hd (cs := #[.int .i64 0, .slice none 0 0]) (t := 47) ?hr ?_; (case hd => rfl); (case hg => rfl); (case hr => first | (go_simp; done) | (go_simp; rfl)); intro gR hg_ w1 hm_ hb_; have G1 := Aside0.mk (blk_below G0.out hb_); have R1 := Aside0.mk (hm_); have B1 := Aside0.mk (below_step B0.out hb_); have GR := Aside0.mk (show w.heap.size ≤ gR by rw [hg_]; exact below_size B0.out); clear hm_ hb_ hg_) | (go_at_call 75; with_reducible refine (opened_calls A cap b _ ?h1 HCAP.out H8.out HL.out).mono ?_; (case h1 => exact Kd.C_below HC.out B1.out); unfold OpenPost; rintro e w3 ⟨hb, hor⟩; have he := (hor.resolve_right (fun h => absurd h.1 HNE.out)).2; rw [← HZ.out] at he; subst he; have R3 := Aside0.mk (blk_below R1.out hb); have B3 := Aside0.mk (below_step B1.out hb); clear hb hor) | ((with_reducible refine gate_dst (N := 7) rfl ?_); refine box_event ?hg (N := 7) ?hd (cs := #[.int .i64 0, .int .i64 0, .int .i64 0, .int .i64 0, .int .i64 0, .pointer none, .slice none 0 0, .slice none 0 0, .int .i64 0]) (t := 121) ?hr ?_; (case hd => rfl); (case hg => rfl); (case hr => first | (go_simp; done) | (go_simp; rfl)); intro gf hg_ w4 hm_ hb_; have R4 := Aside0.mk (blk_below R3.out hb_); have F4 := Aside0.mk (hm_); have B4 := Aside0.mk (below_step B3.out hb_); have GF := Aside0.mk (show w.heap.size ≤ gf by rw [hg_]; exact below_size B3.out); have NRF := Aside0.mk (blk_ne R4.out F4.out (by decide)); have p0 := (blk_cell F4.out 0).trans rfl; have p1 := (blk_cell F4.out 1).trans rfl; have p2 := (blk_cell F4.out 2).trans rfl; have p3 := (blk_cell F4.out 3).trans rfl; have p4 := (blk_cell F4.out 4).trans rfl; have p5 := (blk_cell F4.out 5).trans rfl; have p6 := (blk_cell F4.out 6).trans rfl; have p7 := (blk_cell F4.out 7).trans rfl; have p8 := (blk_cell F4.out 8).trans rfl; have fp0 := blk_frozen F4.out 0; have fp1 := blk_frozen F4.out 1; have fp2 := blk_frozen F4.out 2; have fp3 := blk_frozen F4.out 3; have fp4 := blk_frozen F4.out 4; have fp5 := blk_frozen F4.out 5; have fp6 := blk_frozen F4.out 6; have fp7 := blk_frozen F4.out 7; have fp8 := blk_frozen F4.out 8; have X5 := Aside0.mk (put9 (x0 := .int .i64 0) (x1 := .int .i64 0) (x2 := .int .i64 0) (x3 := .int .i64 0) (x4 := .int .i64 0) (x5 := .pointer none) (x6 := .slice none 0 0) (x7 := .slice none 0 0) (x8 := .int .i64 0) F4.out rfl); have R5 := Aside0.mk ((X5.out.2.1 gR NRF.out).trans R4.out); have B5 := Aside0.mk (B4.out.trans (X5.out.2.2 _ GF.out)); have o0 := (blk_cell R5.out 0).trans rfl; have o1 := (blk_cell R5.out 1).trans rfl; have fo0 := blk_frozen R5.out 0; have fo1 := blk_frozen R5.out 1; clear hm_ hb_ hg_))
 obtain ⟨w6, hw6⟩ : ∃ w6, w6 = (((((((((w4.setCell ⟨gf, 0, none⟩ (.int .i64 0)).setCell ⟨gf, 1, none⟩ (.int .i64 0)).setCell ⟨gf, 2, none⟩ (.int .i64 0)).setCell ⟨gf, 3, none⟩ (.int .i64 0)).setCell ⟨gf, 4, none⟩ (.int .i64 0)).setCell ⟨gf, 5, none⟩ (.pointer none)).setCell ⟨gf, 6, none⟩ (.slice none 0 0)).setCell ⟨gf, 7, none⟩ (.slice none 0 0)).setCell ⟨gf, 8, none⟩ (.int .i64 0)) := ⟨_, rfl⟩
 rw [← hw6] at R5 B5 ⊢
 obtain ⟨wz, hwz⟩ : ∃ wz, wz = (w6.setCell ⟨gR, 0, none⟩ (.int .i64 0)).setCell ⟨gR, 1, none⟩ (.slice none 0 0) := ⟨_, rfl⟩
 rw [← hwz]
 obtain ⟨hGz, hstz, hblz⟩ := put2 R5.out hwz
 refine bodyPost_ret (results_ctt rfl _ _ gR 47 #[.int .i64 0, .slice none 0 0] (0, 0) _ rfl hGz Try.underlying47 rfl (by kernel_rfl)) rfl ?_
 refine ⟨?_, B5.out.trans (hblz _ GR.out)⟩
 rfl

set_option maxHeartbeats 16000000 in
set_option maxRecDepth 100000 in
theorem Region_rect (sp pl W H S : Nat) (ad : Addr) (cap : Nat) (b : List Nat) (X0 Y0 X1 Y1 : Int) (w : World) (hC : (nat .u8).C w (some ad) b.length b) (hcap : b.length ≤ cap) (h8 : ∀ i, gt b i < 256) (he : openE b = 0) (q0 : hSp b = sp) (q1 : hPl b = pl) (q2 : hW b = W) (q3 : hH b = H) (q4 : hS b = S) (hr : X0 < 0 ∨ X1 ≤ X0 ∨ (W : Int) < X1 ∨ Y0 < 0 ∨ Y1 ≤ Y0 ∨ (H : Int) < Y1) :
    Calls Try.prog 40 #[.slice (some ad) b.length cap, .agg #[.int .i64 X0, .int .i64 Y0, .int .i64 X1, .int .i64 Y1]] w fun e w1 => e = .returned (.tuple #[.agg #[.int .i64 0, .slice none 0 0], .slice none 0 0, .int .i64 52]) ∧ Below w.heap.size w w1 := by
 have hu121 := Try.underlying121
 have hu119 := Try.underlying119
 have hu60 := Try.underlying60
 have hu105 := Try.underlying105
 have hu47 := Try.underlying47
 have hu73 := Try.underlying73
 have hu31 := Try.underlying31
 obtain ⟨oz1, oz2, oz3, oz4, oz5, oz6⟩ := open_zero he
 have hmay : mayB sp pl W H S = true := by rw [← q0, ← q1, ← q2, ← q3, ← q4]; exact oz4
 obtain ⟨m1, m2, m3, m4, m5, m6, m7, m8, m9, m10⟩ := mayB_true hmay
 have HM := Aside0.mk hmay
 have HE : Aside0 (openE b = 0) := ⟨he⟩
 obtain ⟨at0, q5⟩ : ∃ a, 16 + hN b = a := ⟨_, rfl⟩
 obtain ⟨n, hn⟩ : ∃ n, n = hK b := ⟨_, rfl⟩
 obtain ⟨ix, hix⟩ : ∃ ix, ix = idxTo b n := ⟨_, rfl⟩
 have HIX : Aside0 (idxTo b (hK b) = ix) := ⟨by rw [hix, hn]⟩
 have HIXN : Aside0 (ix.length = n) := ⟨by rw [hix, idxTo_length]⟩
 have HNK := Aside0.mk hn
 have HIX2 := Aside0.mk hix
 have HH : Aside0 (16 + hN b ≤ b.length) := ⟨oz5⟩
 have HMY : Aside0 (hMay b = true) := ⟨oz4⟩
 have HAT0 : Aside0 (at0 = partPos b 0) := ⟨q5.symm⟩
 have hnp : 0 < n := by
  rw [hn]; unfold hK tilesN
  exact Nat.mul_pos (Nat.mul_pos (acrossN_pos (by omega) (by omega)) (acrossN_pos (by omega) (by omega))) (by omega)
 have HIXP : Aside0 (0 < ix.length) := ⟨by rw [HIXN.out]; exact hnp⟩
 have HNL : Aside0 (n ≤ 1048576) := ⟨by have := hN_eq b; omega⟩
 have HWB : Aside0 (0 < W ∧ W ≤ 1024 ∧ H ≤ 1024 ∧ 0 < S ∧ S ≤ 1024 ∧ 0 < H) := ⟨by omega⟩
 have HWA : Aside0 (W * H ≤ 65536) := ⟨by omega⟩
 clear hnp
 have Q0 := Aside0.mk q0; have Q1 := Aside0.mk q1; have Q2 := Aside0.mk q2; have Q3 := Aside0.mk q3; have Q4 := Aside0.mk q4; have Q5 := Aside0.mk q5
 have HC := Aside0.mk hC
 have HCAP := Aside0.mk hcap
 have H8 := Aside0.mk h8
 have HL : Aside0 (b.length < 4611686018427387904) := ⟨by omega⟩
 have HL4 := Aside0.mk oz1
 have HSP : Aside0 (spaceE (sp : Int) pl = 0) := ⟨m10⟩
 have HP14 : Aside0 (1 ≤ pl ∧ pl ≤ 4) := ⟨⟨m3, m4⟩⟩
 clear hC hcap h8 he q0 q1 q2 q3 q4 q5 oz1 oz2 oz3 oz4 oz5 oz6 hmay m1 m2 m3 m4 m5 m6 m7 m8 m9 m10 hn hix
 by_cases b0 : X0 < 0
 rotate_left
 by_cases b1 : X1 ≤ X0
 rotate_left
 by_cases b2 : (W : Int) < X1
 rotate_left
 by_cases b3 : Y0 < 0
 rotate_left
 by_cases b4 : Y1 ≤ Y0
 rotate_left
 by_cases b5 : (H : Int) < Y1
 rotate_left
 ·exfalso; omega
 all_goals
  first | have a0 : decide (X0 < 0) = true := decide_eq_true b0 | have a0 : decide (X0 < 0) = false := decide_eq_false b0 | skip
  first | have a1 : decide (X1 ≤ X0) = true := decide_eq_true b1 | have a1 : decide (X1 ≤ X0) = false := decide_eq_false b1 | skip
  first | have a2 : decide ((W : Int) < X1) = true := decide_eq_true b2 | have a2 : decide ((W : Int) < X1) = false := decide_eq_false b2 | skip
  first | have a3 : decide (Y0 < 0) = true := decide_eq_true b3 | have a3 : decide (Y0 < 0) = false := decide_eq_false b3 | skip
  first | have a4 : decide (Y1 ≤ Y0) = true := decide_eq_true b4 | have a4 : decide (Y1 ≤ Y0) = false := decide_eq_false b4 | skip
  first | have a5 : decide ((H : Int) < Y1) = true := decide_eq_true b5 | have a5 : decide ((H : Int) < Y1) = false := decide_eq_false b5 | skip
  first | clear hr b0 b1 b2 b3 b4 b5 | clear hr b0 b1 b2 b3 b4 | clear hr b0 b1 b2 b3 | clear hr b0 b1 b2 | clear hr b0 b1 | clear hr b0
  go_enter Try.func40, Try.ntmps40
  go_upto_region 2 with (first | ((with_reducible refine gate_dst (N := 3) rfl ?_); refine box_event ?hg (N := 3) ?hd (cs := #[.int .i64 X0, .int .i64 Y0, .int .i64 X1, .int .i64 Y1]) (t := 73) ?hr ?_; (case hd => rfl); (case hg => rfl); (case hr => first | (go_simp; done) | (go_simp; rfl)); intro gr hg_ w_0 hm_ hb_; have G0 := Aside0.mk (hm_); have B0 := Aside0.mk (hb_); clear hm_ hb_ hg_) | ((with_reducible refine gate_dst (N := 4) rfl ?_); refine box_event ?hg (N := 4) ?hd (cs := #[.int .i64 0, .slice none 0 0]) (t := 47) ?hr ?_; (case hd => rfl); (case hg => rfl); (case hr => first | (go_simp; done) | (go_simp; rfl)); intro gR hg_ w1 hm_ hb_; have G1 := Aside0.mk (blk_below G0.out hb_); have R1 := Aside0.mk (hm_); have B1 := Aside0.mk (below_step B0.out hb_); have GR := Aside0.mk (show w.heap.size ≤ gR by rw [hg_]; exact below_size B0.out); clear hm_ hb_ hg_) | (go_at_call 75; with_reducible refine (opened_calls (some ad) cap b _ ?h1 HCAP.out H8.out HL.out).mono ?_; (case h1 => exact Kd.C_below HC.out B1.out); unfold OpenPost; rintro e w3 ⟨hb, hor⟩; obtain ⟨_, gT, vi, he, hgT, hTB, hV⟩ := hor.resolve_left (fun h => absurd HE.out h.1); rw [Q0.out, Q1.out, Q2.out, Q3.out, Q4.out, Q5.out] at he; rw [HIX.out] at hV; obtain ⟨av, cv, hvi⟩ := Kd.R_slice1 hV HIXP.out; rw [HIXN.out] at hvi; subst hvi; subst he; have IV3 := Aside0.mk (Kd.R_lower hV B1.out.size); have T3 := Aside0.mk hTB; have R3 := Aside0.mk (blk_below R1.out hb); have G3 := Aside0.mk (blk_below G1.out hb); have B3 := Aside0.mk (below_step B1.out hb); clear hb hor hV hTB hgT) | ((with_reducible refine gate_dst (N := 7) rfl ?_); refine box_event ?hg (N := 7) ?hd (cs := #[.int .i64 0, .int .i64 0, .int .i64 0, .int .i64 0, .int .i64 0, .pointer none, .slice none 0 0, .slice none 0 0, .int .i64 0]) (t := 121) ?hr ?_; (case hd => rfl); (case hg => rfl); (case hr => first | (go_simp; done) | (go_simp; rfl)); intro gf hg_ w4 hm_ hb_; have R4 := Aside0.mk (blk_below R3.out hb_); have G4 := Aside0.mk (blk_below G3.out hb_); have F4 := Aside0.mk (hm_); have B4 := Aside0.mk (below_step B3.out hb_); have T4 := Aside0.mk (T3.out.below hb_); have IV4 := Aside0.mk (Kd.R_below IV3.out hb_); have GF := Aside0.mk (show w.heap.size ≤ gf by rw [hg_]; exact below_size B3.out); have NRF := Aside0.mk (blk_ne R4.out F4.out (by decide)); have NGF := Aside0.mk (blk_ne G4.out F4.out (by decide)); have p0 := (blk_cell F4.out 0).trans rfl; have p1 := (blk_cell F4.out 1).trans rfl; have p2 := (blk_cell F4.out 2).trans rfl; have p3 := (blk_cell F4.out 3).trans rfl; have p4 := (blk_cell F4.out 4).trans rfl; have p5 := (blk_cell F4.out 5).trans rfl; have p6 := (blk_cell F4.out 6).trans rfl; have p7 := (blk_cell F4.out 7).trans rfl; have p8 := (blk_cell F4.out 8).trans rfl; have fp0 := blk_frozen F4.out 0; have fp1 := blk_frozen F4.out 1; have fp2 := blk_frozen F4.out 2; have fp3 := blk_frozen F4.out 3; have fp4 := blk_frozen F4.out 4; have fp5 := blk_frozen F4.out 5; have fp6 := blk_frozen F4.out 6; have fp7 := blk_frozen F4.out 7; have fp8 := blk_frozen F4.out 8; obtain ⟨ct, hct⟩ := T4.out.block; have NTF := Aside0.mk (blk_ne hct F4.out (by decide)); clear hct; have X5 := Aside0.mk (put9 (x0 := .int .i64 (sp : Int)) (x1 := .int .i64 (pl : Int)) (x2 := .int .i64 (W : Int)) (x3 := .int .i64 (H : Int)) (x4 := .int .i64 (S : Int)) (x5 := .pointer (some ⟨gT, 0, none⟩)) (x6 := .slice (some av) n cv) (x7 := .slice (some ad) b.length cap) (x8 := .int .i64 (at0 : Int)) F4.out rfl); have R5 := Aside0.mk ((X5.out.2.1 gR NRF.out).trans R4.out); have G5 := Aside0.mk ((X5.out.2.1 gr NGF.out).trans G4.out); have F5 := Aside0.mk (X5.out.1); have B5 := Aside0.mk (B4.out.trans (X5.out.2.2 _ GF.out)); have T5 := Aside0.mk (T4.out.move (X5.out.2.1 gT NTF.out)); have IV5 := Aside0.mk (Kd.R_mono (Kd.R_move (Kd.R_types IV4.out F4.out (by decide)) (fun k hk => X5.out.2.1 k hk.2)) (fun _ _ => trivial)); have o0 := (blk_cell R5.out 0).trans rfl; have o1 := (blk_cell R5.out 1).trans rfl; have fo0 := blk_frozen R5.out 0; have fo1 := blk_frozen R5.out 1; have g0 := (blk_cell G5.out 0).trans rfl; have g1 := (blk_cell G5.out 1).trans rfl; have g2 := (blk_cell G5.out 2).trans rfl; have g3 := (blk_cell G5.out 3).trans rfl; have y0 := (blk_cell F5.out 0).trans rfl; have y1 := (blk_cell F5.out 1).trans rfl; have y2 := (blk_cell F5.out 2).trans rfl; have y3 := (blk_cell F5.out 3).trans rfl; have y4 := (blk_cell F5.out 4).trans rfl; clear hm_ hb_ hg_))
  generalize (((((((((w4.setCell ⟨gf, 0, none⟩ (.int .i64 (sp : Int))).setCell ⟨gf, 1, none⟩ (.int .i64 (pl : Int))).setCell ⟨gf, 2, none⟩ (.int .i64 (W : Int))).setCell ⟨gf, 3, none⟩ (.int .i64 (H : Int))).setCell ⟨gf, 4, none⟩ (.int .i64 (S : Int))).setCell ⟨gf, 5, none⟩ (.pointer (some ⟨gT, 0, none⟩))).setCell ⟨gf, 6, none⟩ (.slice (some av) n cv)).setCell ⟨gf, 7, none⟩ (.slice (some ad) b.length cap)).setCell ⟨gf, 8, none⟩ (.int .i64 (at0 : Int))) = w6 at *
  clear p0 p1 p2 p3 p4 p5 p6 p7 p8 fp0 fp1 fp2 fp3 fp4 fp5 fp6 fp7 fp8 R4 G4 F4 B4 T4 IV4 X5 NTF
  go_wp2
  obtain ⟨wz, hwz⟩ : ∃ wz, wz = (w6.setCell ⟨gR, 0, none⟩ (.int .i64 0)).setCell ⟨gR, 1, none⟩ (.slice none 0 0) := ⟨_, rfl⟩
  rw [← hwz]
  obtain ⟨hGz, hstz, hblz⟩ := put2 R5.out hwz
  refine bodyPost_ret (results_ctt rfl _ _ gR 47 #[.int .i64 0, .slice none 0 0] (0, 0) _ rfl hGz Try.underlying47 rfl (by kernel_rfl)) rfl ?_
  refine ⟨?_, B5.out.trans (hblz _ GR.out)⟩
  rfl
end Go.Proofs.Ytbbebhdcfopmmaa.A
end
section
set_option linter.unusedVariables false
set_option linter.unusedSimpArgs false
namespace Go.Proofs.Ytbbebhdcfopmmaa.A
open Go.RowKit Go.Proofs.YtbbebhdcfopmmaaW.PrintWords Go.Proofs.YtbbebhdcfopmmaaW.PrintLast Go.Proofs.YtbbebhdcfopmmaaW.PrintMore Go.Proofs.Ytbbebhdcfopmmaa.PCodecNames

theorem partPos_le {b : List Nat} (hh : 16 + hN b ≤ b.length) (hl : b.length ≤ 4194304) (h8 : ∀ i, gt b i < 256) : ∀ k, k ≤ hK b → partPos b k ≤ 4194304 + k * 4294967300 := by
 intro k
 induction k with
 | zero => intro _; show 16 + hN b ≤ _; omega
 | succ k ih =>
  intro hk
  have h1 := ih (by omega)
  have h2 := partLen_lt hh (show k < hK b by omega) h8
  rw [partPos]
  omega

/-- Region, the file open and the rectangle within -/
def RegP (b : List Nat) (X0 Y0 X1 Y1 sp pw ph z : Nat) (w : World) (e : Ending) (w1 : World) : Prop := Below w.heap.size w w1 ∧
 ((z ≠ 0 ∧ e = .returned (.tuple #[.agg #[.int .i64 0, .slice none 0 0], .slice none 0 0, .int .i64 (z : Int)])) ∨
  (z = 0 ∧ ∃ vp vr, e = .returned (.tuple #[.agg #[.int .i64 (sp : Int), vp], vr, .int .i64 0]) ∧ ∃ hs, PicOwn w.heap.size w1 vp pw ph hs (regLaid b X0 Y0 X1 Y1 (hK b)) ∧ (nat .i64).R 3 w1 w.heap.size (fun k => vr.ownBlock = some k) vr (regRead b X0 Y0 X1 Y1 (hK b))))
set_option maxHeartbeats 16000000 in
set_option maxRecDepth 100000 in
theorem Region_main (sp pl W H S : Nat) (ad : Addr) (cap : Nat) (b : List Nat) (X0 Y0 X1 Y1 pw ph : Nat) (w : World) (hC : (nat .u8).C w (some ad) b.length b) (hcap : b.length ≤ cap) (h8 : ∀ i, gt b i < 256) (he : openE b = 0) (q0 : hSp b = sp) (q1 : hPl b = pl) (q2 : hW b = W) (q3 : hH b = H) (q4 : hS b = S) (r1 : X0 < X1) (r2 : X1 ≤ W) (r3 : Y0 < Y1) (r4 : Y1 ≤ H) (hpw : pw = X1 - X0) (hph : ph = Y1 - Y0) :
    Calls Try.prog 40 #[.slice (some ad) b.length cap, .agg #[.int .i64 (X0 : Int), .int .i64 (Y0 : Int), .int .i64 (X1 : Int), .int .i64 (Y1 : Int)]] w (RegP b X0 Y0 X1 Y1 sp pw ph (if b.length < partPos b (hK b) then 182 else if partPos b (hK b) < b.length then 181 else regE b X0 Y0 X1 Y1 (hK b) 0) w) := by
 have hu121 := Try.underlying121
 have hu119 := Try.underlying119
 have hu60 := Try.underlying60
 have hu105 := Try.underlying105
 have hu47 := Try.underlying47
 have hu73 := Try.underlying73
 have hu31 := Try.underlying31
 obtain ⟨oz1, oz2, oz3, oz4, oz5, oz6⟩ := open_zero he
 have hmay : mayB sp pl W H S = true := by rw [← q0, ← q1, ← q2, ← q3, ← q4]; exact oz4
 obtain ⟨m1, m2, m3, m4, m5, m6, m7, m8, m9, m10⟩ := mayB_true hmay
 have HM := Aside0.mk hmay
 have HE : Aside0 (openE b = 0) := ⟨he⟩
 obtain ⟨at0, q5⟩ : ∃ a, 16 + hN b = a := ⟨_, rfl⟩
 obtain ⟨n, hn⟩ : ∃ n, n = hK b := ⟨_, rfl⟩
 obtain ⟨ix, hix⟩ : ∃ ix, ix = idxTo b n := ⟨_, rfl⟩
 have HIX : Aside0 (idxTo b (hK b) = ix) := ⟨by rw [hix, hn]⟩
 have HIXN : Aside0 (ix.length = n) := ⟨by rw [hix, idxTo_length]⟩
 have HNK := Aside0.mk hn
 have HIX2 := Aside0.mk hix
 have HH : Aside0 (16 + hN b ≤ b.length) := ⟨oz5⟩
 have HMY : Aside0 (hMay b = true) := ⟨oz4⟩
 have HAT0 : Aside0 (at0 = partPos b 0) := ⟨q5.symm⟩
 have hnp : 0 < n := by
  rw [hn]; unfold hK tilesN
  exact Nat.mul_pos (Nat.mul_pos (acrossN_pos (by omega) (by omega)) (acrossN_pos (by omega) (by omega))) (by omega)
 have HIXP : Aside0 (0 < ix.length) := ⟨by rw [HIXN.out]; exact hnp⟩
 have HNL : Aside0 (n ≤ 1048576) := ⟨by have := hN_eq b; omega⟩
 have HWB : Aside0 (0 < W ∧ W ≤ 1024 ∧ H ≤ 1024 ∧ 0 < S ∧ S ≤ 1024 ∧ 0 < H) := ⟨by omega⟩
 have HWA : Aside0 (W * H ≤ 65536) := ⟨by omega⟩
 clear hnp
 have Q0 := Aside0.mk q0; have Q1 := Aside0.mk q1; have Q2 := Aside0.mk q2; have Q3 := Aside0.mk q3; have Q4 := Aside0.mk q4; have Q5 := Aside0.mk q5
 have HC := Aside0.mk hC
 have HCAP := Aside0.mk hcap
 have H8 := Aside0.mk h8
 have HL : Aside0 (b.length < 4611686018427387904) := ⟨by omega⟩
 have HL4 := Aside0.mk oz1
 have HSP : Aside0 (spaceE (sp : Int) pl = 0) := ⟨m10⟩
 have HP14 : Aside0 (1 ≤ pl ∧ pl ≤ 4) := ⟨⟨m3, m4⟩⟩
 obtain ⟨z, hz⟩ : ∃ z, z = (if b.length < partPos b (hK b) then 182 else if partPos b (hK b) < b.length then 181 else regE b X0 Y0 X1 Y1 (hK b) 0) := ⟨_, rfl⟩
 have HZ := Aside0.mk hz
 rw [← hz]
 have HPB : Aside0 (∀ k, k ≤ n → partPos b k ≤ 4194304 + k * 4294967300) := ⟨by rw [hn]; exact partPos_le oz5 oz1 h8⟩
 have HPL : Aside0 (∀ k, k < n → partLen b k < 4294967296) := ⟨fun k hk => partLen_lt oz5 (by rw [← hn]; exact hk) h8⟩
 have HPW := Aside0.mk hpw
 have HPH := Aside0.mk hph
 have HRC : Aside0 (X0 < X1 ∧ X1 ≤ W ∧ Y0 < Y1 ∧ Y1 ≤ H) := ⟨⟨r1, r2, r3, r4⟩⟩
 have a1 : decide ((X0 : Int) < 0) = false := decide_eq_false (by omega)
 have a2 : decide ((X1 : Int) ≤ (X0 : Int)) = false := decide_eq_false (by omega)
 have a3 : decide ((W : Int) < (X1 : Int)) = false := decide_eq_false (by omega)
 have a4 : decide ((Y0 : Int) < 0) = false := decide_eq_false (by omega)
 have a5 : decide ((Y1 : Int) ≤ (Y0 : Int)) = false := decide_eq_false (by omega)
 have a6 : decide ((H : Int) < (Y1 : Int)) = false := decide_eq_false (by omega)
 have b2 : decide (X1 ≤ X0) = false := decide_eq_false (by omega)
 have b3 : decide (W < X1) = false := decide_eq_false (by omega)
 have b5 : decide (Y1 ≤ Y0) = false := decide_eq_false (by omega)
 have b6 : decide (H < Y1) = false := decide_eq_false (by omega)
 clear hC hcap h8 he q0 q1 q2 q3 q4 q5 oz1 oz2 oz3 oz4 oz5 oz6 hmay m1 m2 m3 m4 m5 m6 m7 m8 m9 m10 hn hix hz hpw hph r1 r2 r3 r4
 go_enter Try.func40, Try.ntmps40
 go_upto_region 2 with (first | ((with_reducible refine gate_dst (N := 3) rfl ?_); refine box_event ?hg (N := 3) ?hd (cs := #[.int .i64 (X0 : Int), .int .i64 (Y0 : Int), .int .i64 (X1 : Int), .int .i64 (Y1 : Int)]) (t := 73) ?hr ?_; (case hd => rfl); (case hg => rfl); (case hr => first | (go_simp; done) | (go_simp; rfl)); intro gr hg_ w_0 hm_ hb_; have G0 := Aside0.mk (hm_); have B0 := Aside0.mk (hb_); clear hm_ hb_ hg_) | ((with_reducible refine gate_dst (N := 4) rfl ?_); refine box_event ?hg (N := 4) ?hd (cs := #[.int .i64 0, .slice none 0 0]) (t := 47) ?hr ?_; (case hd => rfl); (case hg => rfl); (case hr => first | (go_simp; done) | (go_simp; rfl)); intro gR hg_ w1 hm_ hb_; have G1 := Aside0.mk (blk_below G0.out hb_); have R1 := Aside0.mk (hm_); have B1 := Aside0.mk (below_step B0.out hb_); have GR := Aside0.mk (show w.heap.size ≤ gR by rw [hg_]; exact below_size B0.out); clear hm_ hb_ hg_) | (go_at_call 75; with_reducible refine (opened_calls (some ad) cap b _ ?h1 HCAP.out H8.out HL.out).mono ?_; (case h1 => exact Kd.C_below HC.out B1.out); unfold OpenPost; rintro e w3 ⟨hb, hor⟩; obtain ⟨_, gT, vi, he, hgT, hTB, hV⟩ := hor.resolve_left (fun h => absurd HE.out h.1); rw [Q0.out, Q1.out, Q2.out, Q3.out, Q4.out, Q5.out] at he; rw [HIX.out] at hV; obtain ⟨av, cv, hvi⟩ := Kd.R_slice1 hV HIXP.out; rw [HIXN.out] at hvi; subst hvi; subst he; have IV3 := Aside0.mk (Kd.R_lower hV B1.out.size); have T3 := Aside0.mk hTB; have R3 := Aside0.mk (blk_below R1.out hb); have G3 := Aside0.mk (blk_below G1.out hb); have B3 := Aside0.mk (below_step B1.out hb); clear hb hor hV hTB hgT) | ((with_reducible refine gate_dst (N := 7) rfl ?_); refine box_event ?hg (N := 7) ?hd (cs := #[.int .i64 0, .int .i64 0, .int .i64 0, .int .i64 0, .int .i64 0, .pointer none, .slice none 0 0, .slice none 0 0, .int .i64 0]) (t := 121) ?hr ?_; (case hd => rfl); (case hg => rfl); (case hr => first | (go_simp; done) | (go_simp; rfl)); intro gf hg_ w4 hm_ hb_; have R4 := Aside0.mk (blk_below R3.out hb_); have G4 := Aside0.mk (blk_below G3.out hb_); have F4 := Aside0.mk (hm_); have B4 := Aside0.mk (below_step B3.out hb_); have T4 := Aside0.mk (T3.out.below hb_); have IV4 := Aside0.mk (Kd.R_below IV3.out hb_); have GF := Aside0.mk (show w.heap.size ≤ gf by rw [hg_]; exact below_size B3.out); have NRF := Aside0.mk (blk_ne R4.out F4.out (by decide)); have NGF := Aside0.mk (blk_ne G4.out F4.out (by decide)); have p0 := (blk_cell F4.out 0).trans rfl; have p1 := (blk_cell F4.out 1).trans rfl; have p2 := (blk_cell F4.out 2).trans rfl; have p3 := (blk_cell F4.out 3).trans rfl; have p4 := (blk_cell F4.out 4).trans rfl; have p5 := (blk_cell F4.out 5).trans rfl; have p6 := (blk_cell F4.out 6).trans rfl; have p7 := (blk_cell F4.out 7).trans rfl; have p8 := (blk_cell F4.out 8).trans rfl; have fp0 := blk_frozen F4.out 0; have fp1 := blk_frozen F4.out 1; have fp2 := blk_frozen F4.out 2; have fp3 := blk_frozen F4.out 3; have fp4 := blk_frozen F4.out 4; have fp5 := blk_frozen F4.out 5; have fp6 := blk_frozen F4.out 6; have fp7 := blk_frozen F4.out 7; have fp8 := blk_frozen F4.out 8; obtain ⟨ct, hct⟩ := T4.out.block; have NTF := Aside0.mk (blk_ne hct F4.out (by decide)); clear hct; have X5 := Aside0.mk (put9 (x0 := .int .i64 (sp : Int)) (x1 := .int .i64 (pl : Int)) (x2 := .int .i64 (W : Int)) (x3 := .int .i64 (H : Int)) (x4 := .int .i64 (S : Int)) (x5 := .pointer (some ⟨gT, 0, none⟩)) (x6 := .slice (some av) n cv) (x7 := .slice (some ad) b.length cap) (x8 := .int .i64 (at0 : Int)) F4.out rfl); have R5 := Aside0.mk ((X5.out.2.1 gR NRF.out).trans R4.out); have G5 := Aside0.mk ((X5.out.2.1 gr NGF.out).trans G4.out); have F5 := Aside0.mk (X5.out.1); have B5 := Aside0.mk (B4.out.trans (X5.out.2.2 _ GF.out)); have T5 := Aside0.mk (T4.out.move (X5.out.2.1 gT NTF.out)); have IV5 := Aside0.mk (Kd.R_mono (Kd.R_move (Kd.R_types IV4.out F4.out (by decide)) (fun k hk => X5.out.2.1 k hk.2)) (fun _ _ => trivial)); have o0 := (blk_cell R5.out 0).trans rfl; have o1 := (blk_cell R5.out 1).trans rfl; have fo0 := blk_frozen R5.out 0; have fo1 := blk_frozen R5.out 1; have g0 := (blk_cell G5.out 0).trans rfl; have g1 := (blk_cell G5.out 1).trans rfl; have g2 := (blk_cell G5.out 2).trans rfl; have g3 := (blk_cell G5.out 3).trans rfl; have y0 := (blk_cell F5.out 0).trans rfl; have y1 := (blk_cell F5.out 1).trans rfl; have y2 := (blk_cell F5.out 2).trans rfl; have y3 := (blk_cell F5.out 3).trans rfl; have y4 := (blk_cell F5.out 4).trans rfl; clear hm_ hb_ hg_))
 generalize (((((((((w4.setCell ⟨gf, 0, none⟩ (.int .i64 (sp : Int))).setCell ⟨gf, 1, none⟩ (.int .i64 (pl : Int))).setCell ⟨gf, 2, none⟩ (.int .i64 (W : Int))).setCell ⟨gf, 3, none⟩ (.int .i64 (H : Int))).setCell ⟨gf, 4, none⟩ (.int .i64 (S : Int))).setCell ⟨gf, 5, none⟩ (.pointer (some ⟨gT, 0, none⟩))).setCell ⟨gf, 6, none⟩ (.slice (some av) n cv)).setCell ⟨gf, 7, none⟩ (.slice (some ad) b.length cap)).setCell ⟨gf, 8, none⟩ (.int .i64 (at0 : Int))) = w6 at *
 clear p0 p1 p2 p3 p4 p5 p6 p7 p8 fp0 fp1 fp2 fp3 fp4 fp5 fp6 fp7 fp8 R4 G4 F4 B4 T4 IV4 X5 NTF
 have y6 := (blk_cell F5.out 6).trans rfl
 have y8 := (blk_cell F5.out 8).trans rfl
 go_wp2
 clear a1 a2 a3 a4 a5 a6 b2 b3 b5 b6 y6 y8
 go_loop [9, 78] (fun e i => ∃ k : Nat, k ≤ n ∧ i = .int .i64 (k : Int) ∧ e = .int .i64 (partPos b k : Int)) (fun _ i => n - (intOf i).toNat)
 case atStart => exact ⟨0, Nat.zero_le _, rfl, by rw [HAT0.out]⟩
 case round =>
  obtain ⟨k, hk, rfl, rfl⟩ := hrel
  by_cases hlt : k < n
  ·have c1 : decide ((k : Int) < (n : Int)) = true := decide_eq_true (by omega)
   have c2 : decide (k < n) = true := decide_eq_true hlt
   have i1 : ((k : Int) < (n : Int)) = True := eq_true (by omega)
   have i2 : (k < n) = True := eq_true hlt
   obtain ⟨ln, hln⟩ : ∃ r, r = partLen b k := ⟨_, rfl⟩
   obtain ⟨at1, hat1⟩ : ∃ r, r = partPos b k := ⟨_, rfl⟩
   obtain ⟨at2, hat2⟩ : ∃ r, r = partPos b (k + 1) := ⟨_, rfl⟩
   have hx := (idx_cell (v := ln) IV5.out F5.out HIXN.out hlt (by rw [HIX2.out, hln, HNK.out]; exact gt_idxTo (by rw [← HNK.out]; exact hlt))).1
   have hnl := HNL.out
   have h1 : at1 ≤ 4194304 + k * 4294967300 := by rw [hat1]; exact HPB.out k hk
   have h2 : ln < 4294967296 := by rw [hln]; exact HPL.out k hlt
   have h3 : at2 = at1 + ln + 4 := by rw [hat1, hln, hat2]; rfl
   have h4 : at1 < 4611686018427387904 := by omega
   have H3 := Aside0.mk h3
   have HLT := Aside0.mk hlt
   have HA2 := Aside0.mk hat2
   rw [← hat1]
   clear hat1 hat2 hln h1 h3 hlt
   go_wp2
   have hlt := HLT.out
   go_round
   case rel => exact ⟨k + 1, by omega, by go_num, by rw [← HA2.out]; have := H3.out; congr 1; omega⟩
   case measure => simp [intOf]; omega
  ·obtain rfl : n = k := by omega
   have c1 : decide ((n : Int) < (n : Int)) = false := decide_eq_false (by omega)
   obtain ⟨atn, hatn⟩ : ∃ r, r = partPos b n := ⟨_, rfl⟩
   have hnl := HNL.out
   have h1 : atn ≤ 4194304 + n * 4294967300 := by rw [hatn]; exact HPB.out n hk
   have HAN := Aside0.mk hatn
   have h4 : atn < 4611686018427387904 := by omega
   rw [← hatn]
   clear hatn h1 hlt
   by_cases hgt : b.length < atn
   ·have t1 : decide ((b.length : Int) < (atn : Int)) = true := decide_eq_true (by omega)
    have t2 : decide (b.length < atn) = true := decide_eq_true hgt
    have HZ2 : Aside0 (z = 182) := ⟨by rw [HZ.out, ← HNK.out, ← HAN.out, if_pos hgt]⟩
    clear hgt
    go_wp2
    obtain ⟨wz, hwz⟩ : ∃ wz, wz = (w6.setCell ⟨gR, 0, none⟩ (.int .i64 0)).setCell ⟨gR, 1, none⟩ (.slice none 0 0) := ⟨_, rfl⟩
    rw [← hwz]
    obtain ⟨hGz, hstz, hblz⟩ := put2 R5.out hwz
    refine bodyPost_ret (results_ctt rfl _ _ gR 47 #[.int .i64 0, .slice none 0 0] (0, 0) _ rfl hGz Try.underlying47 rfl (by kernel_rfl)) rfl ?_
    exact ⟨B5.out.trans (hblz _ GR.out), .inl ⟨by rw [HZ2.out]; decide, by rw [HZ2.out]; rfl⟩⟩
   ·have t1 : decide ((b.length : Int) < (atn : Int)) = false := decide_eq_false (by omega)
    have t2 : decide (b.length < atn) = false := decide_eq_false hgt
    by_cases hlt2 : atn < b.length
    ·have t3 : decide ((atn : Int) < (b.length : Int)) = true := decide_eq_true (by omega)
     have t4 : decide (atn < b.length) = true := decide_eq_true hlt2
     have HZ2 : Aside0 (z = 181) := ⟨by rw [HZ.out, ← HNK.out, ← HAN.out, if_neg hgt, if_pos hlt2]⟩
     clear hgt hlt2
     go_wp2
     obtain ⟨wz, hwz⟩ : ∃ wz, wz = (w6.setCell ⟨gR, 0, none⟩ (.int .i64 0)).setCell ⟨gR, 1, none⟩ (.slice none 0 0) := ⟨_, rfl⟩
     rw [← hwz]
     obtain ⟨hGz, hstz, hblz⟩ := put2 R5.out hwz
     refine bodyPost_ret (results_ctt rfl _ _ gR 47 #[.int .i64 0, .slice none 0 0] (0, 0) _ rfl hGz Try.underlying47 rfl (by kernel_rfl)) rfl ?_
     exact ⟨B5.out.trans (hblz _ GR.out), .inl ⟨by rw [HZ2.out]; decide, by rw [HZ2.out]; rfl⟩⟩
    ·have t3 : decide ((atn : Int) < (b.length : Int)) = false := decide_eq_false (by omega)
     have t4 : decide (atn < b.length) = false := decide_eq_false hlt2
     have HZ2 : Aside0 (z = regE b X0 Y0 X1 Y1 n 0) := ⟨by rw [HZ.out, ← HNK.out, ← HAN.out, if_neg hgt, if_neg hlt2]⟩
     have HAL : Aside0 (partPos b n = b.length) := ⟨by rw [← HAN.out]; omega⟩
     clear hgt hlt2
     have HWB' := HWB.out; have HRC' := HRC.out
     have HSZ : Aside0 (sizeB (pw : Int) (ph : Int) = true) := ⟨by
      have h1 := HPW.out; have h2 := HPH.out
      have h3 : pw * ph ≤ W * H := Nat.mul_le_mul (by omega) (by omega)
      have h4 := HWA.out
      unfold sizeB
      simp only [Bool.and_eq_true, decide_eq_true_eq]
      refine ⟨⟨⟨⟨by omega, by omega⟩, by omega⟩, by omega⟩, ?_⟩
      have h : ((pw * ph : Nat) : Int) ≤ 65536 := by omega
      simpa using h⟩
     obtain ⟨ss0, hss0⟩ : ∃ ss, ss = regLaid b X0 Y0 X1 Y1 0 := ⟨_, rfl⟩
     have HS0 : Aside0 (List.replicate pl (List.replicate (pw * ph) 0) = ss0) := ⟨by rw [hss0, HPW.out, HPH.out, ← Q1.out]; rfl⟩
     have HS00 := Aside0.mk hss0
     have e1 := wrapI (z := (X1 : Int) - (X0 : Int)) (d := pw) (by have := HPW.out; omega) (by have := HPW.out; omega)
     have e2 := wrapI (z := (Y1 : Int) - (Y0 : Int)) (d := ph) (by have := HPH.out; omega) (by have := HPH.out; omega)
     have y0 := (blk_cell F5.out 0).trans rfl
     have y1 := (blk_cell F5.out 1).trans rfl
     have y6 := (blk_cell F5.out 6).trans rfl
     clear HWB' HRC' hss0 o0 o1 fo0 fo1
     go_upto_region 17 with (first | (go_at_call 76; with_reducible refine (New_zero HP14.out.1 HP14.out.2 HSZ.out HSP.out HS0.out).mono ?_; rintro e w7 ⟨Ap, cp, hs, rfl, hP, hb⟩; have PO7 := Aside0.mk hP; have R7 := Aside0.mk (blk_below R5.out hb); have F7 := Aside0.mk (blk_below F5.out hb); have G7 := Aside0.mk (blk_below G5.out hb); have T7 := Aside0.mk (T5.out.below hb); have IV7 := Aside0.mk (Kd.R_below IV5.out hb); have B7 := Aside0.mk (below_step B5.out hb); clear hb hP y0 y1 y2 y3 y4 y6 g0 g1 g2 g3) | ((with_reducible refine gate_dst (N := 12) rfl ?_); refine box_event ?hg (N := 12) ?hd (cs := #[.int .i64 0, .slice none 0 0]) (t := 47) ?hr ?_; (case hd => rfl); (case hg => rfl); (case hr => first | (go_simp; done) | (go_simp; rfl)); intro gp hg_ w8 hm_ hb_; have X9 := Aside0.mk (put2 (x := .int .i64 (sp : Int)) (y := .slice Ap pl cp) hm_ rfl); have HB9 := Aside0.mk ((show Below w7.heap.size w7 w8 from hb_).trans (X9.out.2.2 _ (by rw [hg_]; exact Nat.le_refl _))); have P8 := Aside0.mk hm_; have o0 := (blk_cell P8.out 0).trans rfl; have o1 := (blk_cell P8.out 1).trans rfl; have fo0 := blk_frozen P8.out 0; have fo1 := blk_frozen P8.out 1; have PO9 := Aside0.mk (PO7.out.below HB9.out); have R9 := Aside0.mk (blk_below R7.out HB9.out); have F9 := Aside0.mk (blk_below F7.out HB9.out); have G9 := Aside0.mk (blk_below G7.out HB9.out); have T9 := Aside0.mk (T7.out.below HB9.out); have IV9 := Aside0.mk (Kd.R_below IV7.out HB9.out); have B9 := Aside0.mk (below_step B7.out HB9.out); have P9 := Aside0.mk (X9.out.1); clear hm_ hb_ hg_))
     obtain ⟨ap, cpx, hap⟩ := Kd.R_slice1 PO9.out.row (by rw [List.length_map, PO9.out.len, ← HS0.out, List.length_replicate]; exact HP14.out.1)
     have hpl : (hs.map fun x => (pw, ph, x)).length = pl := by rw [List.length_map, PO9.out.len, ← HS0.out, List.length_replicate]
     rw [hpl] at hap
     injection hap with hap1 _ hap3
     subst hap1
     subst hap3
     clear hpl
     have HHL : Aside0 (hs.length = pl) := ⟨by rw [PO9.out.len, ← HS0.out, List.length_replicate]⟩
     have D0 : Aside0 (RI w gR gf gp gT gr sp pl W H S (.slice (some av) n cv) ix (.slice (some ad) b.length cap) (.slice (some ap) pl cp) (.slice none 0 0) hs X0 Y0 X1 Y1 pw ph at0 ss0 [] ((w8.setCell ⟨gp, 0, none⟩ (.int .i64 (sp : Int))).setCell ⟨gp, 1, none⟩ (.slice (some ap) pl cp))) := ⟨⟨R9.out, F9.out, P9.out, G9.out, T9.out, nat_self IV9.out, Kd.R_nil _ _ _ _ _, fun k _ h => by simp [Value.ownBlock] at h, PO9.out.lower B5.out.size, B9.out⟩⟩
     clear R9 F9 P9 G9 T9 IV9 PO9 B9 R7 F7 G7 T7 IV7 PO7 B7 R5 F5 G5 T5 IV5 B5 X9 HB9 P8
     generalize (w8.setCell ⟨gp, 0, none⟩ (.int .i64 (sp : Int))).setCell ⟨gp, 1, none⟩ (.slice (some ap) pl cp) = w9 at *
     have y6 := (blk_cell D0.out.hF 6).trans rfl
     go_wp2
     clear y6 h4 hnl hk
     go_loopw [14, 124] (fun v i W' => ∃ k : Nat, k ≤ n ∧ i = .int .i64 (k : Int) ∧ Aside0 (RI w gR gf gp gT gr sp pl W H S (.slice (some av) n cv) ix (.slice (some ad) b.length cap) (.slice (some ap) pl cp) v hs X0 Y0 X1 Y1 pw ph (partPos b k) (regLaid b X0 Y0 X1 Y1 k) (regRead b X0 Y0 X1 Y1 k) W' ∧ regE b X0 Y0 X1 Y1 (n - k) k = regE b X0 Y0 X1 Y1 n 0)) (fun _ i _ => n - (intOf i).toNat)
     case atStart => exact ⟨0, Nat.zero_le _, rfl, ⟨by rw [← HAT0.out, ← HS00.out]; exact D0.out, rfl⟩⟩
     case round =>
      clear D0
      obtain ⟨k, hk, rfl, HI⟩ := hrel
      by_cases hlt : k < n
      ·have c1 : decide ((k : Int) < (n : Int)) = true := decide_eq_true (by omega)
       have c2 : decide (k < n) = true := decide_eq_true hlt
       have i1 : ((k : Int) < (n : Int)) = True := eq_true (by omega)
       have i2 : (k < n) = True := eq_true hlt
       have HLT := Aside0.mk hlt
       have pl1 : 1 ≤ pl := HP14.out.1
       obtain ⟨t, ht⟩ : ∃ t, t = k / pl := ⟨_, rfl⟩
       obtain ⟨j, hj⟩ : ∃ j, j = k % pl := ⟨_, rfl⟩
       have HT_ := Aside0.mk ht
       have HJ_ := Aside0.mk hj
       have HJL : Aside0 (j < hs.length) := ⟨by rw [HHL.out, hj]; exact Nat.mod_lt _ (by omega)⟩
       obtain ⟨x0, hx0⟩ : ∃ r, r = pX0 b k := ⟨_, rfl⟩
       obtain ⟨y0, hy0⟩ : ∃ r, r = pY0 b k := ⟨_, rfl⟩
       obtain ⟨x1, hx1⟩ : ∃ r, r = pX1 b k := ⟨_, rfl⟩
       obtain ⟨y1, hy1⟩ : ∃ r, r = pY1 b k := ⟨_, rfl⟩
       obtain ⟨dw, hdw⟩ : ∃ r, r = pDw b k := ⟨_, rfl⟩
       obtain ⟨dh, hdh⟩ : ∃ r, r = pDh b k := ⟨_, rfl⟩
       obtain ⟨zs, hzs⟩ : ∃ r, r = partV b k := ⟨_, rfl⟩
       obtain ⟨ln, hln⟩ : ∃ r, r = partLen b k := ⟨_, rfl⟩
       obtain ⟨at1, hat1⟩ : ∃ r, r = partPos b k := ⟨_, rfl⟩
       obtain ⟨at2, hat2⟩ : ∃ r, r = partPos b (k + 1) := ⟨_, rfl⟩
       obtain ⟨ss, hss⟩ : ∃ r, r = regLaid b X0 Y0 X1 Y1 k := ⟨_, rfl⟩
       obtain ⟨rd, hrd⟩ : ∃ r, r = regRead b X0 Y0 X1 Y1 k := ⟨_, rfl⟩
       rw [← hat1, ← hss, ← hrd] at HI
       have HWB' := HWB.out
       have hnl := HNL.out
       have htl : t ≤ k := by rw [ht]; exact Nat.div_le_self _ _
       have HRECT : Aside0 (codec_grid_rect.f (sp : Int) (pl : Int) (W : Int) (H : Int) (S : Int) (t : Int) = some ((x0 : Int), (y0 : Int), (x1 : Int), (y1 : Int))) := ⟨by
        rw [rect_f (sp : Int) (pl : Int) W H S t (by omega) (by omega) (by omega) (by omega) (by omega) (by omega), hx1, hy1, hx0, hy0, ht, ← Q1.out]
        unfold pX1 pY1 pX0 pY0
        rw [Q2.out, Q3.out, Q4.out, Q1.out]⟩
       obtain ⟨d1, d2, d3, d4, d5, d6, d7, d8, d9⟩ := part_dims HMY.out (by rw [← HNK.out]; exact hlt)
       rw [← hdw, ← hx0, ← hx1] at d1
       rw [← hdh, ← hy0, ← hy1] at d2
       rw [← hdw] at d3 d5 d7
       rw [← hdh] at d4 d6 d7
       rw [← hx1] at d8
       rw [← hy1] at d9
       have HDB : Aside0 (dw ≤ 1024 ∧ dh ≤ 1024 ∧ x0 ≤ 1024 ∧ y0 ≤ 1024 ∧ x1 ≤ 1024 ∧ y1 ≤ 1024) := ⟨by omega⟩
       have HPS : Aside0 ((ss.getD j []).length = pw * ph) := ⟨by rw [hss, HPW.out, HPH.out]; exact regLaid_pl k j (by rw [Q1.out, ← HHL.out]; exact HJL.out)⟩
       clear d1 d2 d3 d4 d5 d6 d7 d8 d9
       have HX0 := Aside0.mk hx0; have HY0 := Aside0.mk hy0; have HX1 := Aside0.mk hx1; have HY1 := Aside0.mk hy1; have HDW := Aside0.mk hdw; have HDH := Aside0.mk hdh; have HZS := Aside0.mk hzs; have HA1 := Aside0.mk hat1; have HA2 := Aside0.mk hat2; have HSS := Aside0.mk hss; have HRD := Aside0.mk hrd; have HLN := Aside0.mk hln
       have D1 := Aside0.mk HI.out.1
       have E1 := Aside0.mk HI.out.2
       have L2 : Aside0 (at2 ≤ b.length ∧ at2 = at1 + ln + 4) := ⟨by
        have h := partPos_mono b (k + 1) (n - (k + 1))
        rw [show k + 1 + (n - (k + 1)) = n by omega, HAL.out, ← hat2] at h
        exact ⟨by omega, by rw [hat2, hat1, hln]; rfl⟩⟩
       have hpi : ((k : Int) / (pl : Int)) = (t : Int) := by rw [ht]; exact (Int.natCast_ediv _ _).symm
       have hki : ((k : Int) % (pl : Int)) = (j : Int) := by rw [hj]; exact (Int.natCast_emod _ _).symm
       have htw : wrap64 (t : Int) = (t : Int) := w64 (n := (t : Int)) (by omega) (by omega)
       have WPI := Aside0.mk (show wrap64 ((k : Int) / (pl : Int)) = (t : Int) by rw [hpi]; exact htw)
       have WKI := Aside0.mk hki
       have hx := (idx_cell (v := ln) D1.out.hI D1.out.hF HIXN.out hlt (by rw [HIX2.out, hln, HNK.out]; exact gt_idxTo (by rw [← HNK.out]; exact hlt))).1
       clear ht hj hx0 hy0 hx1 hy1 hdw hdh hzs hat1 hat2 hss hrd hln HWB' hnl htl hpi hki htw HI hlt
       have q1 := (blk_cell D1.out.hF 1).trans rfl
       go_wp2
       go_quiet (fail)
       clear q1 hx
       obtain ⟨wd, hwd⟩ : ∃ wd, wr.drewN nq = wd := ⟨_, rfl⟩
       have D1' : Aside0 (RI w gR gf gp gT gr sp pl W H S (.slice (some av) n cv) ix (.slice (some ad) b.length cap) (.slice (some ap) pl cp) u14 hs X0 Y0 X1 Y1 pw ph at1 ss rd wd) := ⟨D1.out.below (below_at hwd (Below.refl _ _))⟩
       simp only [WPI.out, WKI.out, hwd]
       clear D1 WPI WKI
       have q0 := (blk_cell D1'.out.hF 0).trans rfl
       have q1 := (blk_cell D1'.out.hF 1).trans rfl
       have q2 := (blk_cell D1'.out.hF 2).trans rfl
       have q3 := (blk_cell D1'.out.hF 3).trans rfl
       have q4 := (blk_cell D1'.out.hF 4).trans rfl
       go_upto_region 23 with (first | (go_at_call 68; with_reducible refine (codec_grid_rect.calls _ _ _ _ _ _ _ _ _ _ _ HRECT.out).mono ?_; rintro e w2 ⟨rfl, hb⟩; have I2 := Aside0.mk (D1'.out.below hb); clear hb) | ((with_reducible refine gate_dst (N := 19) rfl ?_); refine box_event ?hg (N := 19) ?hd (cs := #[.int .i64 0, .int .i64 0, .int .i64 0, .int .i64 0]) (t := 73) ?hr ?_; (case hd => rfl); (case hg => rfl); (case hr => first | (go_simp; done) | (go_simp; rfl)); intro gq hg_ w3 hm_ hb_; have X4 := Aside0.mk (put4 (x := .int .i64 (x0 : Int)) (y := .int .i64 (y0 : Int)) (z := .int .i64 (x1 : Int)) (u := .int .i64 (y1 : Int)) hm_ rfl); have I4 := Aside0.mk (I2.out.below ((show Below w2.heap.size w2 w3 from hb_).trans (X4.out.2.2 _ (by rw [hg_]; exact Nat.le_refl _)))); have Q4 := Aside0.mk (X4.out.1); have yy0 := (blk_cell Q4.out 0).trans rfl; have yy1 := (blk_cell Q4.out 1).trans rfl; have yy2 := (blk_cell Q4.out 2).trans rfl; have yy3 := (blk_cell Q4.out 3).trans rfl; have Q3 := Aside0.mk hm_; have o0 := (blk_cell Q3.out 0).trans rfl; have o1 := (blk_cell Q3.out 1).trans rfl; have o2 := (blk_cell Q3.out 2).trans rfl; have o3 := (blk_cell Q3.out 3).trans rfl; have fo0 := blk_frozen Q3.out 0; have fo1 := blk_frozen Q3.out 1; have fo2 := blk_frozen Q3.out 2; have fo3 := blk_frozen Q3.out 3; clear hm_ hb_ hg_ X4 Q3 q0 q1 q2 q3 q4))
       generalize (((w3.setCell ⟨gq, 0, none⟩ (.int .i64 (x0 : Int))).setCell ⟨gq, 1, none⟩ (.int .i64 (y0 : Int))).setCell ⟨gq, 2, none⟩ (.int .i64 (x1 : Int))).setCell ⟨gq, 3, none⟩ (.int .i64 (y1 : Int)) = wp at *
       clear o0 o1 o2 o3 fo0 fo1 fo2 fo3
       have g0 := (blk_cell I4.out.hG 0).trans rfl
       have g1 := (blk_cell I4.out.hG 1).trans rfl
       have g2 := (blk_cell I4.out.hG 2).trans rfl
       have g3 := (blk_cell I4.out.hG 3).trans rfl
       have f8 := (blk_cell I4.out.hF 8).trans rfl
       have ff8 := blk_frozen I4.out.hF 8
       have hb1 : at1 ≤ 4194304 := by have := L2.out; have := HL4.out; omega
       have hb2 : ln ≤ 4194304 := by have := L2.out; have := HL4.out; omega
       have ea : (at1 : Int) + ((ln : Int) + 4) = (at2 : Int) := by have := L2.out; omega
       obtain ⟨ma, hma⟩ : ∃ r, r = max x0 X0 := ⟨_, rfl⟩
       obtain ⟨mb, hmb⟩ : ∃ r, r = min x1 X1 := ⟨_, rfl⟩
       obtain ⟨mc, hmc⟩ : ∃ r, r = max y0 Y0 := ⟨_, rfl⟩
       obtain ⟨md, hmd⟩ : ∃ r, r = min y1 Y1 := ⟨_, rfl⟩
       have m1 : (if x0 < X0 then (X0 : Int) else (x0 : Int)) = (ma : Int) := by split <;> omega
       have m2 : (if X1 < x1 then (X1 : Int) else (x1 : Int)) = (mb : Int) := by split <;> omega
       have m3 : (if y0 < Y0 then (Y0 : Int) else (y0 : Int)) = (mc : Int) := by split <;> omega
       have m4 : (if Y1 < y1 then (Y1 : Int) else (y1 : Int)) = (md : Int) := by split <;> omega
       have HOV : Aside0 (ovl b X0 Y0 X1 Y1 k = (decide (ma < mb) && decide (mc < md))) := ⟨by unfold ovl; rw [← HX0.out, ← HX1.out, ← HY0.out, ← HY1.out, hma, hmb, hmc, hmd]⟩
       clear hma hmb hmc hmd
       by_cases hv : ma < mb ∧ mc < md
       ·have t1 : decide ((mb : Int) ≤ (ma : Int)) = false := decide_eq_false (by omega)
        have t2 : decide (mb ≤ ma) = false := decide_eq_false (by omega)
        have t3 : decide ((md : Int) ≤ (mc : Int)) = false := decide_eq_false (by omega)
        have t4 : decide (md ≤ mc) = false := decide_eq_false (by omega)
        have HV : Aside0 (ovl b X0 Y0 X1 Y1 k = true) := ⟨by rw [HOV.out, decide_eq_true hv.1, decide_eq_true hv.2]; rfl⟩
        clear hv
        go_upto_if 168 with (fail)
        by_cases hE : partE b k = 0
        ·have HE0 := Aside0.mk hE
         obtain ⟨p1, p2, rs, p3⟩ := partE_zero hE
         have HQS : Aside0 (zs.length = dw * dh) := ⟨by
          have h1 := (dec_one (subN_lt H8.out) p3).1
          rw [HZS.out, HDW.out, HDH.out]
          unfold partV
          rw [p3]
          exact (planeTo_length _ _ _).trans h1⟩
         have hdb := HDB.out
         have hrc := HRC.out
         have hwb := HWB.out
         have hpw := HPW.out
         have hph := HPH.out
         have HPWB : Aside0 (0 < pw ∧ pw ≤ 1024 ∧ ph ≤ 1024) := ⟨by omega⟩
         obtain ⟨xo, hxo⟩ : ∃ r : Int, r = (x0 : Int) - (X0 : Int) := ⟨_, rfl⟩
         obtain ⟨yo, hyo⟩ : ∃ r : Int, r = (y0 : Int) - (Y0 : Int) := ⟨_, rfl⟩
         have HOFF : Aside0 (-1048576 ≤ xo ∧ xo ≤ 1048576 ∧ -1048576 ≤ yo ∧ yo ≤ 1048576) := ⟨by omega⟩
         have HE3 : Aside0 (IntKind.i64.wrap ((x0 : Int) - (X0 : Int)) = xo) := ⟨by rw [← hxo]; simp only [IntKind.wrap_i64]; omega⟩
         have HE4 : Aside0 (IntKind.i64.wrap ((y0 : Int) - (Y0 : Int)) = yo) := ⟨by rw [← hyo]; simp only [IntKind.wrap_i64]; omega⟩
         obtain ⟨ss2, hss2⟩ : ∃ r, r = regLaid b X0 Y0 X1 Y1 (k + 1) := ⟨_, rfl⟩
         have HS2 : Aside0 (ss2 = ss.set j (pasteN (ss.getD j []) zs pw dw dh xo yo)) := ⟨by
          rw [hss2, regLaid, if_pos HV.out, HSS.out, HJ_.out, HZS.out, HPW.out, HDW.out, HDH.out, hxo, hyo, HX0.out, HY0.out, Q1.out]⟩
         have HSS2 := Aside0.mk hss2
         clear hE p1 p2 p3 hdb hrc hwb hpw hph hxo hyo hss2 t1 t2 t3 t4 m1 m2 m3 m4 g0 g1 g2 g3 f8 ff8 ea hb1 hb2
         go_upto_region 26 with (first | (go_at_call 77; with_reducible refine (part_goodF HNK.out HIX2.out HA1.out HA2.out HX0.out HY0.out HX1.out HY1.out HDW.out HDH.out HZS.out GF.out HLT.out HC.out HCAP.out H8.out HL4.out HMY.out HE0.out I4.out.hF I4.out.hT I4.out.hI I4.out.hB).mono ?_; rintro e w5 ⟨Az, cz, rfl, hR, hF, hg⟩; have V5 := Aside0.mk hR; have I5 := Aside0.mk (I4.out.part hg GF.out hF); have Q5 := Aside0.mk (blk_past Q4.out I4.out.hF (by decide) hg); have O4 := Aside0.mk I4.out.hO; clear hR hF hg yy0 yy1 yy2 yy3) | ((with_reducible refine gate_dst (N := 20) rfl ?_); refine box_event ?hg (N := 20) ?hd (cs := #[.int .i64 0, .int .i64 0, .slice none 0 0]) (t := 31) ?hr ?_; (case hd => rfl); (case hg => rfl); (case hr => first | (go_simp; done) | (go_simp; rfl)); intro gz hg_ w6 hm_ hb_; have X6 := Aside0.mk (put3 (x := .int .i64 (dw : Int)) (y := .int .i64 (dh : Int)) (z := .slice Az zs.length cz) hm_ rfl); have HB6 := Aside0.mk ((show Below w5.heap.size w5 w6 from hb_).trans (X6.out.2.2 _ (by rw [hg_]; exact Nat.le_refl _))); have I6 := Aside0.mk (I5.out.below HB6.out); have Q6 := Aside0.mk (blk_below Q5.out HB6.out); have V6 := Aside0.mk (Kd.R_below V5.out HB6.out); have Z6 := Aside0.mk (X6.out.1); have Z5 := Aside0.mk hm_; have o0 := (blk_cell Z5.out 0).trans rfl; have o1 := (blk_cell Z5.out 1).trans rfl; have o2 := (blk_cell Z5.out 2).trans rfl; have fo0 := blk_frozen Z5.out 0; have fo1 := blk_frozen Z5.out 1; have fo2 := blk_frozen Z5.out 2; clear hm_ hb_ hg_ X6 HB6 Z5))
         generalize ((w6.setCell ⟨gz, 0, none⟩ (.int .i64 (dw : Int))).setCell ⟨gz, 1, none⟩ (.int .i64 (dh : Int))).setCell ⟨gz, 2, none⟩ (.slice Az zs.length cz) = wq at *
         clear o0 o1 o2 fo0 fo1 fo2
         by_cases hj : j = 0
         ·have t1 : ((j : Int) == 0) = true := by rw [beq_iff_eq]; omega
          have t2 : (j == 0) = true := by rw [beq_iff_eq]; exact hj
          obtain ⟨rd2, hrd2⟩ : ∃ r, r = rd ++ [t] := ⟨_, rfl⟩
          have HRD2 : Aside0 (rd2 = regRead b X0 Y0 X1 Y1 (k + 1)) := ⟨by rw [hrd2, regRead, if_pos ⟨HV.out, by rw [Q1.out, ← HJ_.out]; exact hj⟩, HRD.out, HT_.out, Q1.out]⟩
          have HRDE : Aside0 (rd ++ [t] = rd2) := ⟨hrd2.symm⟩
          have HRL : Aside0 ((rd.length + 1) * 8 ≤ 140737488355328) := ⟨by have h1 := regRead_len b X0 Y0 X1 Y1 k; rw [← HRD.out] at h1; have := HNL.out; have := HLT.out; omega⟩
          clear hj hrd2
          go_upto_region 30 with ((with_reducible refine gate_builtin (b := .append) (xs := #[.tmp 189, .tmp 191]) rfl ?_); at_builtin; refine Kd.R_append (nat .i64) (w0 := w) w.heap.size rfl (.tmp 189) (.tmp 191) 62 3 (.int .i64 0) 8 rfl Try.underlying62 info3 rfl (by decide) (by decide) u14 rd t [.int .i64 (t : Int)] (fun _ => True) (fun _ => False) rfl rfl rfl (fun _ hk => hk.elim) (fun _ _ => trivial) ?aO ?aB ?aS ?aL ?_; (case aO => exact Kd.R_mono I6.out.hV (fun _ _ => trivial)); (case aB => exact I6.out.hB); (case aS => exact I6.out.hB.size); (case aL => exact HRL.out); intro v7 w7 hR hB hg hat; rw [HRDE.out] at hR; have I7 := Aside0.mk (I6.out.told hR hB hg hat); have Q7 := Aside0.mk (I6.out.far hg Q6.out (by decide)); have Z7 := Aside0.mk (I6.out.far hg Z6.out (by decide)); have V7 := Aside0.mk (I6.out.words hg V6.out); clear hR hB hg hat)
          clear I6 Q6 Z6 V6 t1 t2
          have p1 := (blk_cell I7.out.hP 1).trans rfl
          have x_0 := (blk_cell Q7.out 0).trans rfl
          have x_1 := (blk_cell Q7.out 1).trans rfl
          have z0 := (blk_cell Z7.out 0).trans rfl
          have z1 := (blk_cell Z7.out 1).trans rfl
          have z2 := (blk_cell Z7.out 2).trans rfl
          have g0 := (blk_cell I7.out.hG 0).trans rfl
          have g1 := (blk_cell I7.out.hG 1).trans rfl
          obtain ⟨s0, s1, s2⟩ := I7.out.hO.cells HJL.out
          obtain ⟨vk, hvk⟩ : ∃ v, v = (hs[j]'HJL.out).v := ⟨_, rfl⟩
          rw [← hvk] at s2
          rw [add_at _ _ _ (by decide)] at s1 s2
          obtain ⟨aq, haq⟩ : ∃ a, ap.add (j * 3) = a := ⟨_, rfl⟩
          rw [haq] at s0 s1 s2
          have HVK := Aside0.mk hvk
          clear hvk
          have kp : j < pl := by rw [← HHL.out]; exact HJL.out
          have i1 : ((j : Int) < (pl : Int)) = True := eq_true (by omega)
          have i2 : (j < pl) = True := eq_true kp
          clear kp
          have e3 := HE3.out
          have e4 := HE4.out
          have HBL := Aside0.mk (show ∀ kk, vk.ownBlock = some kk → kk < _ from fun kk hk => (O4.out.pl_lt HJL.out (by rw [← HVK.out]; exact hk)).2.1)
          go_still_tail 16, (by kernel_rfl)
          change wpList _ _ _ _ _ w7.drew
          have I8 : Aside0 (RI w gR gf gp gT gr sp pl W H S (.slice (some av) n cv) ix (.slice (some ad) b.length cap) (.slice (some ap) pl cp) v7 hs X0 Y0 X1 Y1 pw ph at2 ss rd2 w7.drew) := ⟨I7.out.below (below_drew1 (Below.refl _ _))⟩
          have V8 := Aside0.mk (Kd.R_below V7.out (below_drew1 (Below.refl _ w7)))
          clear I7 Q7 Z7 V7 p1 x_0 x_1 z0 z1 z2 g0 g1 s0 s1 s2 i1 i2 haq e3 e4
          generalize w7.drew = wq8 at *
          have hnb : n ≤ 1048576 := HNL.out
          go_wp2_with (go_at_call 78; with_reducible refine (paste_picI HJL.out HVK.out HS2.out HPS.out HQS.out HPWB.out.1 HPWB.out.2.1 HPWB.out.2.2 HDB.out.1 HDB.out.2.1 HOFF.out.1 HOFF.out.2.1 HOFF.out.2.2.1 HOFF.out.2.2.2 V8.out HBL.out I8.out.hO I8.out.hB).mono ?_; rintro e w9' ⟨rfl, hO, hB, hk⟩; have I9 := Aside0.mk (I8.out.paste HJL.out hO hB hk); clear hO hB hk)
          have HF : Aside0 (RI w gR gf gp gT gr sp pl W H S (.slice (some av) n cv) ix (.slice (some ad) b.length cap) (.slice (some ap) pl cp) v7 hs X0 Y0 X1 Y1 pw ph (partPos b (k + 1)) (regLaid b X0 Y0 X1 Y1 (k + 1)) (regRead b X0 Y0 X1 Y1 (k + 1)) w9' ∧ regE b X0 Y0 X1 Y1 (n - (k + 1)) (k + 1) = regE b X0 Y0 X1 Y1 n 0) := ⟨by
           refine ⟨by rw [← HA2.out, ← HSS2.out, ← HRD2.out]; exact I9.out, ?_⟩
           have h := E1.out
           have hlt := HLT.out
           rw [show n - k = (n - (k + 1)) + 1 by omega] at h
           have h2 : regE b X0 Y0 X1 Y1 ((n - (k + 1)) + 1) k = regE b X0 Y0 X1 Y1 (n - (k + 1)) (k + 1) := by rw [regE, if_neg (fun hh => hh.2 HE0.out)]
           rw [← h2]
           exact h⟩
          have hlt := HLT.out
          go_roundw
          case measure => simp [intOf]; omega
          case rel => first | exact ⟨k + 1, by omega, by go_num, HF⟩ | ((repeat apply Exists.intro); exact ⟨⟨k + 1, by omega, by go_num, HF⟩, rfl⟩)
         ·have t1 : ((j : Int) == 0) = false := by rw [beq_eq_false_iff_ne]; omega
          have t2 : (j == 0) = false := by rw [beq_eq_false_iff_ne]; exact hj
          have HRD2 : Aside0 (rd = regRead b X0 Y0 X1 Y1 (k + 1)) := ⟨by rw [regRead, if_neg (fun hh => hj (by rw [HJ_.out, ← Q1.out]; exact hh.2)), HRD.out]⟩
          clear hj
          go_upto_region 30 with (fail)
          clear t1 t2
          have p1 := (blk_cell I6.out.hP 1).trans rfl
          have x_0 := (blk_cell Q6.out 0).trans rfl
          have x_1 := (blk_cell Q6.out 1).trans rfl
          have z0 := (blk_cell Z6.out 0).trans rfl
          have z1 := (blk_cell Z6.out 1).trans rfl
          have z2 := (blk_cell Z6.out 2).trans rfl
          have g0 := (blk_cell I6.out.hG 0).trans rfl
          have g1 := (blk_cell I6.out.hG 1).trans rfl
          obtain ⟨s0, s1, s2⟩ := I6.out.hO.cells HJL.out
          obtain ⟨vk, hvk⟩ : ∃ v, v = (hs[j]'HJL.out).v := ⟨_, rfl⟩
          rw [← hvk] at s2
          rw [add_at _ _ _ (by decide)] at s1 s2
          obtain ⟨aq, haq⟩ : ∃ a, ap.add (j * 3) = a := ⟨_, rfl⟩
          rw [haq] at s0 s1 s2
          have HVK := Aside0.mk hvk
          clear hvk
          have kp : j < pl := by rw [← HHL.out]; exact HJL.out
          have i1 : ((j : Int) < (pl : Int)) = True := eq_true (by omega)
          have i2 : (j < pl) = True := eq_true kp
          clear kp
          have e3 := HE3.out
          have e4 := HE4.out
          have HBL := Aside0.mk (show ∀ kk, vk.ownBlock = some kk → kk < _ from fun kk hk => (O4.out.pl_lt HJL.out (by rw [← HVK.out]; exact hk)).2.1)
          go_still_tail 16, (by kernel_rfl)
          change wpList _ _ _ _ _ wq.drew
          have I8 : Aside0 (RI w gR gf gp gT gr sp pl W H S (.slice (some av) n cv) ix (.slice (some ad) b.length cap) (.slice (some ap) pl cp) u14 hs X0 Y0 X1 Y1 pw ph at2 ss rd wq.drew) := ⟨I6.out.below (below_drew1 (Below.refl _ _))⟩
          have V8 := Aside0.mk (Kd.R_below V6.out (below_drew1 (Below.refl _ wq)))
          clear I6 Q6 Z6 V6 p1 x_0 x_1 z0 z1 z2 g0 g1 s0 s1 s2 i1 i2 haq e3 e4
          generalize wq.drew = wq8 at *
          have hnb : n ≤ 1048576 := HNL.out
          go_wp2_with (go_at_call 78; with_reducible refine (paste_picI HJL.out HVK.out HS2.out HPS.out HQS.out HPWB.out.1 HPWB.out.2.1 HPWB.out.2.2 HDB.out.1 HDB.out.2.1 HOFF.out.1 HOFF.out.2.1 HOFF.out.2.2.1 HOFF.out.2.2.2 V8.out HBL.out I8.out.hO I8.out.hB).mono ?_; rintro e w9' ⟨rfl, hO, hB, hk⟩; have I9 := Aside0.mk (I8.out.paste HJL.out hO hB hk); clear hO hB hk)
          have HF : Aside0 (RI w gR gf gp gT gr sp pl W H S (.slice (some av) n cv) ix (.slice (some ad) b.length cap) (.slice (some ap) pl cp) u14 hs X0 Y0 X1 Y1 pw ph (partPos b (k + 1)) (regLaid b X0 Y0 X1 Y1 (k + 1)) (regRead b X0 Y0 X1 Y1 (k + 1)) w9' ∧ regE b X0 Y0 X1 Y1 (n - (k + 1)) (k + 1) = regE b X0 Y0 X1 Y1 n 0) := ⟨by
           refine ⟨by rw [← HA2.out, ← HSS2.out, ← HRD2.out]; exact I9.out, ?_⟩
           have h := E1.out
           have hlt := HLT.out
           rw [show n - k = (n - (k + 1)) + 1 by omega] at h
           have h2 : regE b X0 Y0 X1 Y1 ((n - (k + 1)) + 1) k = regE b X0 Y0 X1 Y1 (n - (k + 1)) (k + 1) := by rw [regE, if_neg (fun hh => hh.2 HE0.out)]
           rw [← h2]
           exact h⟩
          have hlt := HLT.out
          go_roundw
          case measure => simp [intOf]; omega
          case rel => first | exact ⟨k + 1, by omega, by go_num, HF⟩ | ((repeat apply Exists.intro); exact ⟨⟨k + 1, by omega, by go_num, HF⟩, rfl⟩)
        ·have HE0 := Aside0.mk hE
         have HZ3 : Aside0 (z = partE b k) := ⟨by
          have h := E1.out
          have hlt := HLT.out
          have h2 : regE b X0 Y0 X1 Y1 ((n - (k + 1)) + 1) k = partE b k := by rw [regE, if_pos ⟨HV.out, HE0.out⟩]
          rw [show n - k = (n - (k + 1)) + 1 by omega, h2] at h
          rw [HZ2.out, ← h]⟩
         have hz0 : z ≠ 0 := by rw [HZ3.out]; exact hE
         have u1 : ((z : Int) != 0) = true := by rw [bne_iff_ne]; omega
         have u2 : (z != 0) = true := by rw [bne_iff_ne]; omega
         have HZ0 := Aside0.mk hz0
         have HAB : Aside0 (at1 ≤ b.length) := ⟨by have := L2.out; omega⟩
         clear hE hz0 t1 t2 t3 t4 m1 m2 m3 m4 g0 g1 g2 g3 f8 ff8 ea hb1 hb2
         go_upto_region 26 with (first | (go_at_call 77; with_reducible refine (part_badF HNK.out HIX2.out HA1.out HX0.out HY0.out HX1.out HY1.out HZ3.out GF.out HLT.out HC.out HCAP.out H8.out HL4.out HH.out HMY.out HAB.out HE0.out I4.out.hF I4.out.hT I4.out.hI I4.out.hB).mono ?_; rintro e w5 ⟨rfl, hg⟩; have R5 := Aside0.mk (blk_past I4.out.hR I4.out.hF (by decide) hg); have B5 := Aside0.mk (below_past I4.out.hB hg GF.out); clear hg yy0 yy1 yy2 yy3) | ((with_reducible refine gate_dst (N := 20) rfl ?_); refine box_event ?hg (N := 20) ?hd (cs := #[.int .i64 0, .int .i64 0, .slice none 0 0]) (t := 31) ?hr ?_; (case hd => rfl); (case hg => rfl); (case hr => first | (go_simp; done) | (go_simp; rfl)); intro gz hg_ w6 hm_ hb_; have X6 := Aside0.mk (put3 (x := .int .i64 0) (y := .int .i64 0) (z := .slice none 0 0) hm_ rfl); have HB6 := Aside0.mk ((show Below w5.heap.size w5 w6 from hb_).trans (X6.out.2.2 _ (by rw [hg_]; exact Nat.le_refl _))); have R6 := Aside0.mk (blk_below R5.out HB6.out); have B6 := Aside0.mk (below_step B5.out HB6.out); have Z5 := Aside0.mk hm_; have o0 := (blk_cell Z5.out 0).trans rfl; have o1 := (blk_cell Z5.out 1).trans rfl; have o2 := (blk_cell Z5.out 2).trans rfl; have fo0 := blk_frozen Z5.out 0; have fo1 := blk_frozen Z5.out 1; have fo2 := blk_frozen Z5.out 2; have r0 := (blk_cell R6.out 0).trans rfl; have r1 := (blk_cell R6.out 1).trans rfl; have fr0 := blk_frozen R6.out 0; have fr1 := blk_frozen R6.out 1; clear hm_ hb_ hg_ X6 HB6 Z5))
         generalize ((w6.setCell ⟨gz, 0, none⟩ (.int .i64 0)).setCell ⟨gz, 1, none⟩ (.int .i64 0)).setCell ⟨gz, 2, none⟩ (.slice none 0 0) = wq at *
         clear o0 o1 o2 fo0 fo1 fo2
         go_wp2
         obtain ⟨wz, hwz⟩ : ∃ wz, wz = (wq.setCell ⟨gR, 0, none⟩ (.int .i64 0)).setCell ⟨gR, 1, none⟩ (.slice none 0 0) := ⟨_, rfl⟩
         rw [← hwz]
         obtain ⟨hGz, hstz, hblz⟩ := put2 R6.out hwz
         refine bodyPost_ret (results_ctt rfl _ _ gR 47 #[.int .i64 0, .slice none 0 0] (0, 0) _ rfl hGz Try.underlying47 rfl (by kernel_rfl)) rfl ?_
         exact ⟨B6.out.trans (hblz _ GR.out), .inl ⟨HZ0.out, rfl⟩⟩
       ·have HV : Aside0 (ovl b X0 Y0 X1 Y1 k = false) := ⟨by
         rw [HOV.out]
         by_cases h1 : ma < mb
         ·rw [decide_eq_true h1, decide_eq_false (fun h => hv ⟨h1, h⟩)]; rfl
         ·rw [decide_eq_false h1]; rfl⟩
        have HF : Aside0 (RI w gR gf gp gT gr sp pl W H S (.slice (some av) n cv) ix (.slice (some ad) b.length cap) (.slice (some ap) pl cp) u14 hs X0 Y0 X1 Y1 pw ph (partPos b (k + 1)) (regLaid b X0 Y0 X1 Y1 (k + 1)) (regRead b X0 Y0 X1 Y1 (k + 1)) (wp.setCell ⟨gf, 8, none⟩ (.int .i64 (at2 : Int))) ∧ regE b X0 Y0 X1 Y1 (n - (k + 1)) (k + 1) = regE b X0 Y0 X1 Y1 n 0) := ⟨by
         refine ⟨?_, ?_⟩
         ·rw [← HA2.out, regLaid, if_neg (by rw [HV.out]; decide), regRead, if_neg (by rw [HV.out]; exact fun hh => absurd hh.1 (by decide)), ← HSS.out, ← HRD.out]
          exact I4.out.skip GF.out
         ·have h := E1.out
          have hlt := HLT.out
          rw [show n - k = (n - (k + 1)) + 1 by omega] at h
          have h2 : regE b X0 Y0 X1 Y1 ((n - (k + 1)) + 1) k = regE b X0 Y0 X1 Y1 (n - (k + 1)) (k + 1) := by rw [regE, if_neg (by rw [HV.out]; exact fun hh => absurd hh.1 (by decide))]
          rw [← h2]
          exact h⟩
        by_cases h1 : ma < mb
        ·have t1 : decide ((mb : Int) ≤ (ma : Int)) = false := decide_eq_false (by omega)
         have t2 : decide (mb ≤ ma) = false := decide_eq_false (by omega)
         have t3 : decide ((md : Int) ≤ (mc : Int)) = true := decide_eq_true (by omega)
         have t4 : decide (md ≤ mc) = true := decide_eq_true (by omega)
         clear hv h1
         go_upto_if 168 with (fail)
         clear I4 Q4
         have hnb : n ≤ 1048576 := HNL.out
         go_wp2
         have hlt := HLT.out
         go_roundw
         case measure => simp [intOf]; omega
         case rel => first | exact ⟨k + 1, by omega, by go_num, HF⟩ | ((repeat apply Exists.intro); exact ⟨⟨k + 1, by omega, by go_num, HF⟩, rfl⟩)
        ·have t1 : decide ((mb : Int) ≤ (ma : Int)) = true := decide_eq_true (by omega)
         have t2 : decide (mb ≤ ma) = true := decide_eq_true (by omega)
         clear hv h1
         go_upto_if 168 with (fail)
         clear I4 Q4
         have hnb : n ≤ 1048576 := HNL.out
         go_wp2
         have hlt := HLT.out
         go_roundw
         case measure => simp [intOf]; omega
         case rel => first | exact ⟨k + 1, by omega, by go_num, HF⟩ | ((repeat apply Exists.intro); exact ⟨⟨k + 1, by omega, by go_num, HF⟩, rfl⟩)
      ·obtain rfl : n = k := by omega
       have c1 : decide ((n : Int) < (n : Int)) = false := decide_eq_false (by omega)
       obtain ⟨ss, hss⟩ : ∃ r, r = regLaid b X0 Y0 X1 Y1 n := ⟨_, rfl⟩
       obtain ⟨rd, hrd⟩ : ∃ r, r = regRead b X0 Y0 X1 Y1 n := ⟨_, rfl⟩
       obtain ⟨at1, hat1⟩ : ∃ r, r = partPos b n := ⟨_, rfl⟩
       rw [← hat1, ← hss, ← hrd] at HI
       have HSS : Aside0 (regLaid b X0 Y0 X1 Y1 (hK b) = ss) := ⟨by rw [hss, HNK.out]⟩
       have HRD : Aside0 (regRead b X0 Y0 X1 Y1 (hK b) = rd) := ⟨by rw [hrd, HNK.out]⟩
       have D1 := Aside0.mk HI.out.1
       have HZ3 : Aside0 (z = 0) := ⟨by
        have h := HI.out.2
        rw [Nat.sub_self] at h
        rw [HZ2.out, ← h]; rfl⟩
       clear hss hrd hat1 HI hlt
       have R1 := Aside0.mk D1.out.hR
       have o0 := (blk_cell R1.out 0).trans rfl
       have o1 := (blk_cell R1.out 1).trans rfl
       have fo0 := blk_frozen R1.out 0
       have fo1 := blk_frozen R1.out 1
       have q_0 := (blk_cell D1.out.hP 0).trans rfl
       have q_1 := (blk_cell D1.out.hP 1).trans rfl
       go_wp2
       obtain ⟨wz, hwz⟩ : ∃ wz, wz = (wr.setCell ⟨gR, 0, none⟩ (.int .i64 (sp : Int))).setCell ⟨gR, 1, none⟩ (.slice (some ap) pl cp) := ⟨_, rfl⟩
       rw [← hwz]
       obtain ⟨hGz, hstz, hblz⟩ := put2 R1.out hwz
       refine bodyPost_ret (results_ctt rfl _ _ gR 47 #[.int .i64 (sp : Int), .slice (some ap) pl cp] (0, 0) _ rfl hGz Try.underlying47 rfl (by kernel_rfl)) rfl ?_
       refine ⟨D1.out.hB.trans (hblz _ GR.out), .inr ⟨HZ3.out, _, u14, rfl, hs, ?_, ?_⟩⟩
       ·rw [HSS.out]; exact D1.out.hO.keep hstz (D1.out.hO.ne_row R1.out (by decide)) (D1.out.hO.ne_pl R1.out (by decide))
       ·rw [HRD.out]; exact ints_stay D1.out.hV (fun k cs _ hc => hstz k (blk_ne hc R1.out (by decide)))
end Go.Proofs.Ytbbebhdcfopmmaa.A
end
section
set_option linter.unusedVariables false
set_option linter.unusedSimpArgs false
namespace Go.Proofs.Ytbbebhdcfopmmaa.A
open Go.RowKit Go.Proofs.YtbbebhdcfopmmaaW.PrintWords Go.Proofs.YtbbebhdcfopmmaaW.PrintLast Go.Proofs.YtbbebhdcfopmmaaW.PrintMore Go.Proofs.Ytbbebhdcfopmmaa.PCodecNames

/-- Region of any bytes -/
def RegionP (b : List Nat) (X0 Y0 X1 Y1 : Int) (w : World) (e : Ending) (w1 : World) : Prop := Below w.heap.size w w1 ∧
 ((regionE b X0 Y0 X1 Y1 ≠ 0 ∧ e = .returned (.tuple #[.agg #[.int .i64 0, .slice none 0 0], .slice none 0 0, .int .i64 (regionE b X0 Y0 X1 Y1 : Int)])) ∨
  (regionE b X0 Y0 X1 Y1 = 0 ∧ ∃ vp vr, e = .returned (.tuple #[.agg #[.int .i64 (hSp b : Int), vp], vr, .int .i64 0]) ∧ ∃ hs, PicOwn w.heap.size w1 vp (X1.toNat - X0.toNat) (Y1.toNat - Y0.toNat) hs (regLaid b X0.toNat Y0.toNat X1.toNat Y1.toNat (hK b)) ∧ (nat .i64).R 3 w1 w.heap.size (fun k => vr.ownBlock = some k) vr (regRead b X0.toNat Y0.toNat X1.toNat Y1.toNat (hK b))))
theorem Region_any (A : Option Addr) (cap : Nat) (b : List Nat) (X0 Y0 X1 Y1 : Int) (w : World) (hC : (nat .u8).C w A b.length b) (hcap : b.length ≤ cap) (h8 : ∀ i, gt b i < 256) (hl : b.length < 4611686018427387904) :
    Calls Try.prog 40 #[.slice A b.length cap, .agg #[.int .i64 X0, .int .i64 Y0, .int .i64 X1, .int .i64 Y1]] w (RegionP b X0 Y0 X1 Y1 w) := by
 by_cases he : openE b = 0
 ·obtain ⟨z1, z2, _⟩ := open_zero he
  obtain ⟨ad, c, rfl, _⟩ := Kd.C_get hC 0 0 (by decide) (by omega)
  by_cases hw : withinB b X0 Y0 X1 Y1 = true
  ·have hw2 := hw
   unfold withinB at hw2
   simp only [Bool.and_eq_true, decide_eq_true_eq] at hw2
   obtain ⟨⟨⟨⟨⟨a1, a2⟩, a3⟩, a4⟩, a5⟩, a6⟩ := hw2
   have h := Region_main (hSp b) (hPl b) (hW b) (hH b) (hS b) ad cap b X0.toNat Y0.toNat X1.toNat Y1.toNat (X1.toNat - X0.toNat) (Y1.toNat - Y0.toNat) w hC hcap h8 he rfl rfl rfl rfl rfl (by omega) (by omega) (by omega) (by omega) rfl rfl
   rw [Int.toNat_of_nonneg a1, Int.toNat_of_nonneg (by omega : 0 ≤ X1), Int.toNat_of_nonneg a4, Int.toNat_of_nonneg (by omega : 0 ≤ Y1)] at h
   refine h.mono ?_
   have hE : regionE b X0 Y0 X1 Y1 = (if b.length < partPos b (hK b) then 182 else if partPos b (hK b) < b.length then 181 else regE b X0.toNat Y0.toNat X1.toNat Y1.toNat (hK b) 0) := by
    unfold regionE
    rw [if_neg (by rw [he]; decide), if_neg (by rw [hw]; decide)]
   rw [← hE]
   exact fun _ _ h => h
  ·have hw0 : withinB b X0 Y0 X1 Y1 = false := by rcases h : withinB b X0 Y0 X1 Y1 with _ | _ <;> simp_all
   have hr : X0 < 0 ∨ X1 ≤ X0 ∨ (hW b : Int) < X1 ∨ Y0 < 0 ∨ Y1 ≤ Y0 ∨ (hH b : Int) < Y1 := by
    unfold withinB at hw
    simp only [Bool.and_eq_true, decide_eq_true_eq] at hw
    omega
   refine (Region_rect (hSp b) (hPl b) (hW b) (hH b) (hS b) ad cap b X0 Y0 X1 Y1 w hC hcap h8 he rfl rfl rfl rfl rfl hr).mono ?_
   rintro e w1 ⟨rfl, hb⟩
   have hE : regionE b X0 Y0 X1 Y1 = 52 := by
    unfold regionE
    rw [if_neg (by rw [he]; decide), if_pos hw0]
   exact ⟨hb, .inl ⟨by rw [hE]; decide, by rw [hE]; rfl⟩⟩
 ·refine (Region_bad A cap b X0 Y0 X1 Y1 w hC hcap h8 hl he).mono ?_
  rintro e w1 ⟨rfl, hb⟩
  have h1 : regionE b X0 Y0 X1 Y1 = openE b := by unfold regionE; rw [if_pos he]
  exact ⟨hb, .inl ⟨by rw [h1]; exact he, by rw [h1]⟩⟩

def kP : Pic := ⟨0, 1, 1, [[0]]⟩
def kB : List Nat := [72, 76, 68, 49, 0, 1, 0, 1, 0, 1, 0, 1, 0, 0, 0, 1, 134, 199, 101, 40, 0, 210, 2, 239, 141]
theorem kB_enc : encN kP 1 = kB := by decide +kernel
theorem kB_dec : decodeE kB = 0 ∧ hSp kB = 0 ∧ hPl kB = 1 ∧ hW kB = 1 ∧ hH kB = 1 ∧ hS kB = 1 ∧ laid kB (hK kB) = [[0]] ∧ openE kB = 0 := by decide +kernel
theorem kB_reg : regionE kB 0 0 1 1 = 0 ∧ regLaid kB 0 0 1 1 (hK kB) = [[0]] ∧ regRead kB 0 0 1 1 (hK kB) = [0] := by decide +kernel
theorem kB_24 : decodeE (kB.take 24) = 182 ∧ decodeE (kB.take 11) = 182 := by decide +kernel
theorem crc_nine : crc [49, 50, 51, 52, 53, 54, 55, 56, 57] = 3421780262 := by decide +kernel
theorem k_rests : restsN [5, 3] 2 = [5, 4294967294] ∧ planeN [5, 4294967294] 2 = [5, 3] := by decide +kernel
end Go.Proofs.Ytbbebhdcfopmmaa.A
end
section
set_option linter.unusedVariables false
set_option linter.unusedSimpArgs false
namespace Go.Proofs.Ytbbebhdcfopmmaa.A
open Go.RowKit Go.Proofs.YtbbebhdcfopmmaaW.PrintWords Go.Proofs.YtbbebhdcfopmmaaW.PrintLast Go.Proofs.YtbbebhdcfopmmaaW.PrintMore Go.Proofs.Ytbbebhdcfopmmaa.PCodecNames

theorem rd_ext {a b : List Int} (hl : a.length = b.length) (h : ∀ j : Nat, j < a.length → rd a (j : Int) = rd b (j : Int)) : a = b := by
 refine List.ext_getElem hl (fun j h1 h2 => ?_)
 have := h j h1
 unfold rd at this
 rw [Int.toNat_natCast, List.getD_eq_getElem?_getD, List.getD_eq_getElem?_getD, List.getElem?_eq_getElem h1, List.getElem?_eq_getElem h2] at this
 exact this

theorem same_l {a b : List Int} (hl : a.length = b.length) (hm : a.length < 4611686018427387904) : ∀ (d i k : Nat), i + d = a.length → d < k → (∀ j : Nat, j < i → rd a (j : Int) = rd b (j : Int)) → halidelaw18_sameBytes.l0 k a b (i : Int) = some (decide (a = b)) := by
 intro d
 induction d with
 | zero =>
  intro i k hi hk he
  obtain ⟨k, rfl⟩ : ∃ m, k = m + 1 := ⟨k - 1, by omega⟩
  unfold halidelaw18_sameBytes.l0
  rw [if_neg (by omega), rd_ext hl (fun j hj => he j (by omega))]
  simp
 | succ d ih =>
  intro i k hi hk he
  obtain ⟨k, rfl⟩ : ∃ m, k = m + 1 := ⟨k - 1, by omega⟩
  unfold halidelaw18_sameBytes.l0
  rw [if_pos (by omega), if_pos (by omega), if_pos (by omega)]
  by_cases h : rd a (i : Int) = rd b (i : Int)
  ·rw [if_pos h, w64 (n := (i : Int) + 1) (by omega) (by omega)]
   exact ih (i + 1) k (by omega) (by omega) (fun j hj => by
    by_cases hj2 : j < i
    ·exact he j hj2
    ·obtain rfl : j = i := by omega
     exact h)
  ·rw [if_neg h]
   have : a ≠ b := fun e => h (by rw [e])
   simp [this]
theorem same_f {a b : List Int} (k : Nat) (hk : a.length < k) (hm : a.length < 4611686018427387904) : halidelaw18_sameBytes.f k a b = some (decide (a = b)) := by
 unfold halidelaw18_sameBytes.f
 by_cases h : a.length = b.length
 ·rw [if_pos (by omega)]
  exact same_l h hm a.length 0 k (by omega) hk (fun j hj => absurd hj (Nat.not_lt_zero _))
 ·rw [if_neg (by omega)]
  have : a ≠ b := fun e => h (by rw [e])
  simp [this]

theorem same_nat (A B : Option Addr) (c d : Nat) (a b : List Nat) (w : World) (hA : (nat .u8).C w A a.length a) (hB : (nat .u8).C w B b.length b) (hc : a.length ≤ c) (hd : b.length ≤ d) (hl : a.length < 4611686018427387904) :
    Calls Try.prog 18 #[.slice A a.length c, .slice B b.length d] w fun e w' => e = .returned (.bool (decide (a = b))) ∧ Drawn0 w w' := by
 have h := halidelaw18_sameBytes.calls (a.length + 1) A c (ints a) B d (ints b) (decide (a = b)) w (by rw [ints_length]; exact C_ints hA) (by rw [ints_length]; exact hc) (by rw [ints_length]; exact C_ints hB) (by rw [ints_length]; exact hd) (by
  rw [same_f _ (by rw [ints_length]; omega) (by rw [ints_length]; exact hl)]
  congr 1
  by_cases h : a = b
  ·rw [h]; simp
  ·have h2 : ints a ≠ ints b := fun e => h (ints_inj e)
   simp [h, h2])
 rw [ints_length, ints_length] at h
 exact h

theorem words_l {a b : List Int} (hl : a.length = b.length) (hm : a.length < 4611686018427387904) : ∀ (d i k : Nat), i + d = a.length → d < k → (∀ j : Nat, j < i → rd a (j : Int) = rd b (j : Int)) → halidehelp_Words.l0 k a b (i : Int) = some (decide (a = b)) := by
 intro d
 induction d with
 | zero =>
  intro i k hi hk he
  obtain ⟨k, rfl⟩ : ∃ m, k = m + 1 := ⟨k - 1, by omega⟩
  unfold halidehelp_Words.l0
  rw [if_neg (by omega), rd_ext hl (fun j hj => he j (by omega))]
  simp
 | succ d ih =>
  intro i k hi hk he
  obtain ⟨k, rfl⟩ : ∃ m, k = m + 1 := ⟨k - 1, by omega⟩
  unfold halidehelp_Words.l0
  rw [if_pos (by omega), if_pos (by omega), if_pos (by omega)]
  by_cases h : rd a (i : Int) = rd b (i : Int)
  ·rw [if_pos h, w64 (n := (i : Int) + 1) (by omega) (by omega)]
   exact ih (i + 1) k (by omega) (by omega) (fun j hj => by
    by_cases hj2 : j < i
    ·exact he j hj2
    ·obtain rfl : j = i := by omega
     exact h)
  ·rw [if_neg h]
   have : a ≠ b := fun e => h (by rw [e])
   simp [this]
theorem words_f {a b : List Int} (k : Nat) (hk : a.length < k) (hm : a.length < 4611686018427387904) : halidehelp_Words.f k a b = some (decide (a = b)) := by
 unfold halidehelp_Words.f
 by_cases h : a.length = b.length
 ·rw [if_pos (by omega)]
  exact words_l h hm a.length 0 k (by omega) hk (fun j hj => absurd hj (Nat.not_lt_zero _))
 ·rw [if_neg (by omega)]
  have : a ≠ b := fun e => h (by rw [e])
  simp [this]

theorem words_nat (A B : Option Addr) (c d : Nat) (a b : List Nat) (w : World) (hA : (nat .u32).C w A a.length a) (hB : (nat .u32).C w B b.length b) (hc : a.length ≤ c) (hd : b.length ≤ d) (hl : a.length < 4611686018427387904) :
    Calls Try.prog 26 #[.slice A a.length c, .slice B b.length d] w fun e w' => e = .returned (.bool (decide (a = b))) ∧ Drawn0 w w' := by
 have h := halidehelp_Words.calls (a.length + 1) A c (ints a) B d (ints b) (decide (a = b)) w (by rw [ints_length]; exact C_ints hA) (by rw [ints_length]; exact hc) (by rw [ints_length]; exact C_ints hB) (by rw [ints_length]; exact hd) (by
  rw [words_f _ (by rw [ints_length]; omega) (by rw [ints_length]; exact hl)]
  congr 1
  by_cases h : a = b
  ·rw [h]; simp
  ·have h2 : ints a ≠ ints b := fun e => h (ints_inj e)
   simp [h, h2])
 rw [ints_length, ints_length] at h
 exact h

theorem intsq_l {a b : List Int} (hl : a.length = b.length) (hm : a.length < 4611686018427387904) : ∀ (d i k : Nat), i + d = a.length → d < k → (∀ j : Nat, j < i → rd a (j : Int) = rd b (j : Int)) → halidehelp_Ints.l0 k a b (i : Int) = some (decide (a = b)) := by
 intro d
 induction d with
 | zero =>
  intro i k hi hk he
  obtain ⟨k, rfl⟩ : ∃ m, k = m + 1 := ⟨k - 1, by omega⟩
  unfold halidehelp_Ints.l0
  rw [if_neg (by omega), rd_ext hl (fun j hj => he j (by omega))]
  simp
 | succ d ih =>
  intro i k hi hk he
  obtain ⟨k, rfl⟩ : ∃ m, k = m + 1 := ⟨k - 1, by omega⟩
  unfold halidehelp_Ints.l0
  rw [if_pos (by omega), if_pos (by omega), if_pos (by omega)]
  by_cases h : rd a (i : Int) = rd b (i : Int)
  ·rw [if_pos h, w64 (n := (i : Int) + 1) (by omega) (by omega)]
   exact ih (i + 1) k (by omega) (by omega) (fun j hj => by
    by_cases hj2 : j < i
    ·exact he j hj2
    ·obtain rfl : j = i := by omega
     exact h)
  ·rw [if_neg h]
   have : a ≠ b := fun e => h (by rw [e])
   simp [this]
theorem intsq_f {a b : List Int} (k : Nat) (hk : a.length < k) (hm : a.length < 4611686018427387904) : halidehelp_Ints.f k a b = some (decide (a = b)) := by
 unfold halidehelp_Ints.f
 by_cases h : a.length = b.length
 ·rw [if_pos (by omega)]
  exact intsq_l h hm a.length 0 k (by omega) hk (fun j hj => absurd hj (Nat.not_lt_zero _))
 ·rw [if_neg (by omega)]
  have : a ≠ b := fun e => h (by rw [e])
  simp [this]

theorem intsq_nat (A B : Option Addr) (c d : Nat) (a b : List Nat) (w : World) (hA : (nat .i64).C w A a.length a) (hB : (nat .i64).C w B b.length b) (hc : a.length ≤ c) (hd : b.length ≤ d) (hl : a.length < 4611686018427387904) :
    Calls Try.prog 41 #[.slice A a.length c, .slice B b.length d] w fun e w' => e = .returned (.bool (decide (a = b))) ∧ Drawn0 w w' := by
 have h := halidehelp_Ints.calls (a.length + 1) A c (ints a) B d (ints b) (decide (a = b)) w (by rw [ints_length]; exact C_ints hA) (by rw [ints_length]; exact hc) (by rw [ints_length]; exact C_ints hB) (by rw [ints_length]; exact hd) (by
  rw [intsq_f _ (by rw [ints_length]; omega) (by rw [ints_length]; exact hl)]
  congr 1
  by_cases h : a = b
  ·rw [h]; simp
  ·have h2 : ints a ≠ ints b := fun e => h (ints_inj e)
   simp [h, h2])
 rw [ints_length, ints_length] at h
 exact h

theorem plane_f {x y u v : Int} {a b : List Int} (k : Nat) (hk : a.length < k) (hm : a.length < 4611686018427387904) : halidehelp_Plane.f k x y a u v b = some (decide (x = u ∧ y = v ∧ a = b)) := by
 unfold halidehelp_Plane.f
 rw [words_f k hk hm]
 by_cases h1 : x = u
 ·rw [if_pos h1]
  by_cases h2 : y = v
  ·rw [if_pos h2]; simp [h1, h2]
  ·rw [if_neg h2]; simp [h2]
 ·rw [if_neg h1]; simp [h1]
theorem plane_nat (A B : Option Addr) (c d : Nat) (x y u v : Nat) (a b : List Nat) (w : World) (hA : (nat .u32).C w A a.length a) (hB : (nat .u32).C w B b.length b) (hc : a.length ≤ c) (hd : b.length ≤ d) (hl : a.length < 4611686018427387904) :
    Calls Try.prog 27 #[.agg #[.int .i64 (x : Int), .int .i64 (y : Int), .slice A a.length c], .agg #[.int .i64 (u : Int), .int .i64 (v : Int), .slice B b.length d]] w fun e w' => e = .returned (.bool (decide (x = u ∧ y = v ∧ a = b))) ∧ Below w.heap.size w w' := by
 have h := halidehelp_Plane.calls (a.length + 1) (x : Int) (y : Int) A c (ints a) (u : Int) (v : Int) B d (ints b) (decide (x = u ∧ y = v ∧ a = b)) w (by rw [ints_length]; exact C_ints hA) (by rw [ints_length]; exact hc) (by rw [ints_length]; exact C_ints hB) (by rw [ints_length]; exact hd) (by
  rw [plane_f _ (by rw [ints_length]; omega) (by rw [ints_length]; exact hl)]
  congr 1
  rw [decide_eq_decide]
  constructor
  ·rintro ⟨h1, h2, h3⟩; exact ⟨by omega, by omega, ints_inj h3⟩
  ·rintro ⟨rfl, rfl, rfl⟩; exact ⟨rfl, rfl, rfl⟩)
 rw [ints_length, ints_length] at h
 exact h
theorem Drawn0.to_below {w w' : World} (h : Drawn0 w w') : Below w.heap.size w w' := by
 obtain ⟨n, rfl⟩ := h
 exact pw_below_drewN (Below.refl _ _) n
end Go.Proofs.Ytbbebhdcfopmmaa.A
end
section
set_option linter.unusedVariables false
set_option linter.unusedSimpArgs false
namespace Go.Proofs.Ytbbebhdcfopmmaa.A
open Go.RowKit Go.Proofs.YtbbebhdcfopmmaaW.PrintWords Go.Proofs.YtbbebhdcfopmmaaW.PrintLast Go.Proofs.YtbbebhdcfopmmaaW.PrintMore Go.Proofs.Ytbbebhdcfopmmaa.PCodecNames

theorem S31_ext : ∀ {a b : S31}, a.f0 = b.f0 → a.f1 = b.f1 → a.f2 = b.f2 → a = b := by
 rintro ⟨⟩ ⟨⟩ rfl rfl rfl; rfl
theorem rdT_ext {l k : List S31} (hl : l.length = k.length) (h : ∀ j : Nat, j < l.length → rd_T31 l (j : Int) = rd_T31 k (j : Int)) : l = k := by
 apply List.ext_getElem hl
 intro i h1 h2
 have e := h i h1
 unfold rd_T31 at e
 rw [Int.toNat_natCast, List.getD_eq_getElem?_getD, List.getD_eq_getElem?_getD, List.getElem?_eq_getElem h1, List.getElem?_eq_getElem h2] at e
 exact e
theorem plane_int (f0 f1 g0 g1 : Int) (A B : Option Addr) (m m2 c d : Nat) (s t : List Int) (w : World) (hm : s.length = m) (hm2 : t.length = m2) (hA : (Kd.int .u32).C w A m s) (hc : m ≤ c) (hB : (Kd.int .u32).C w B m2 t) (hd : m2 ≤ d) (hl : m < 4611686018427387904) (b : Bool) (hb : b = decide (f0 = g0 ∧ f1 = g1 ∧ s = t)) :
    Calls Try.prog 27 #[.agg #[.int .i64 f0, .int .i64 f1, .slice A m c], .agg #[.int .i64 g0, .int .i64 g1, .slice B m2 d]] w fun e w' => e = .returned (.bool b) ∧ Below w.heap.size w w' := by
 subst hm hm2
 exact halidehelp_Plane.calls (s.length + 1) f0 f1 A c s g0 g1 B d t b w hA hc hB hd (by rw [plane_f _ (by omega) hl, hb])
theorem cell_on1 {w w' : World} {a : Addr} {v : Value} (hb : Below w.heap.size w w') (h : w.cell? a = some v) : w'.cell? a = some v := (hb.cell (World.block_lt_of_cell? _ _ h)).trans h
def PicQ (sp tp : Int) (l k : List S31) (w : World) (e : Ending) (w' : World) : Prop := ∃ b : Bool, e = .returned (.bool b) ∧ (b = true ↔ (sp = tp ∧ l = k)) ∧ Below w.heap.size w w'
theorem PicQ.mk {sp tp : Int} {l k : List S31} {w w' : World} {b : Bool} (h : b = true ↔ (sp = tp ∧ l = k)) (hb : Below w.heap.size w w') : PicQ sp tp l k w (.returned (.bool b)) w' := ⟨b, rfl, h, hb⟩
set_option maxHeartbeats 8000000 in
set_option maxRecDepth 100000 in
theorem picture_eq (sp tp : Int) (A B : Option Addr) (cap cb n m : Nat) (l k : List S31) (w : World) (hn : l.length = n) (hm : k.length = m) (hC : Kd.C k31 w A n l) (hK : Kd.C k31 w B m k) (hn2 : n < 4611686018427387904) (hl : ∀ i : Nat, i < n → (rd_T31 l (i : Int)).f2.length < 4611686018427387904) :
    Calls Try.prog 32 #[.agg #[.int .i64 sp, .slice A n cap], .agg #[.int .i64 tp, .slice B m cb]] w (PicQ sp tp l k w) := by
 have hu47 := Try.underlying47
 have hu31 := Try.underlying31
 have HN := Aside0.mk hn
 have HM := Aside0.mk hm
 have HC := Aside0.mk hC
 have HK := Aside0.mk hK
 have HLC := Aside0.mk hl
 clear hC hK hl
 by_cases h0 : sp = tp
 case neg =>
  have t0 : (sp != tp) = true := by rw [bne_iff_ne]; exact h0
  have HX : Aside0 (false = true ↔ (sp = tp ∧ l = k)) := ⟨⟨(fun h => by cases h), fun h => absurd h.1 h0⟩⟩
  clear h0 hn hm
  go_enter Try.func32, Try.ntmps32
  go_wp2_with (first | ((with_reducible refine gate_dst (N := 2) rfl ?_); refine box_event ?hg (N := 2) ?hd (cs := #[.int .i64 sp, .slice A n cap]) (t := 47) ?hr ?_; (case hd => rfl); (case hg => rfl); (case hr => first | (go_simp; done) | (go_simp; rfl)); intro gP hg_ w1 hm_ hb_; have P1 := Aside0.mk (hm_); have B1 := Aside0.mk (hb_); clear hm_ hb_ hg_) | ((with_reducible refine gate_dst (N := 3) rfl ?_); refine box_event ?hg (N := 3) ?hd (cs := #[.int .i64 tp, .slice B m cb]) (t := 47) ?hr ?_; (case hd => rfl); (case hg => rfl); (case hr => first | (go_simp; done) | (go_simp; rfl)); intro gQ hg_ w2 hm_ hb_; have Q1 := Aside0.mk (hm_); have P2 := Aside0.mk (blk_below P1.out hb_); have B2 := Aside0.mk (below_step B1.out hb_); have p0 := (blk_cell P2.out 0).trans rfl; have p1 := (blk_cell P2.out 1).trans rfl; have r0 := (blk_cell Q1.out 0).trans rfl; have r1 := (blk_cell Q1.out 1).trans rfl; clear hm_ hb_ hg_))
  go_ret
  exact PicQ.mk HX.out B2.out
 have t0 : (sp != tp) = false := by rw [bne_eq_false_iff_eq]; exact h0
 by_cases h1 : n = m
 case neg =>
  have t1 : (n != m) = true := by rw [bne_iff_ne]; exact h1
  have t1' : ((n : Int) != (m : Int)) = true := by rw [bne_iff_ne]; omega
  have HX : Aside0 (false = true ↔ (sp = tp ∧ l = k)) := ⟨⟨(fun h => by cases h), fun h => absurd (by rw [← hn, ← hm, h.2]) h1⟩⟩
  clear h0 h1 hn hm
  go_enter Try.func32, Try.ntmps32
  go_wp2_with (first | ((with_reducible refine gate_dst (N := 2) rfl ?_); refine box_event ?hg (N := 2) ?hd (cs := #[.int .i64 sp, .slice A n cap]) (t := 47) ?hr ?_; (case hd => rfl); (case hg => rfl); (case hr => first | (go_simp; done) | (go_simp; rfl)); intro gP hg_ w1 hm_ hb_; have P1 := Aside0.mk (hm_); have B1 := Aside0.mk (hb_); clear hm_ hb_ hg_) | ((with_reducible refine gate_dst (N := 3) rfl ?_); refine box_event ?hg (N := 3) ?hd (cs := #[.int .i64 tp, .slice B m cb]) (t := 47) ?hr ?_; (case hd => rfl); (case hg => rfl); (case hr => first | (go_simp; done) | (go_simp; rfl)); intro gQ hg_ w2 hm_ hb_; have Q1 := Aside0.mk (hm_); have P2 := Aside0.mk (blk_below P1.out hb_); have B2 := Aside0.mk (below_step B1.out hb_); have p0 := (blk_cell P2.out 0).trans rfl; have p1 := (blk_cell P2.out 1).trans rfl; have r0 := (blk_cell Q1.out 0).trans rfl; have r1 := (blk_cell Q1.out 1).trans rfl; clear hm_ hb_ hg_))
  go_ret
  exact PicQ.mk HX.out B2.out
 have t1 : (n != m) = false := by rw [bne_eq_false_iff_eq]; exact h1
 have t1' : ((n : Int) != (m : Int)) = false := by rw [bne_eq_false_iff_eq]; omega
 have H0 := Aside0.mk h0
 clear h0 hn hm
 subst h1
 go_enter Try.func32, Try.ntmps32
 go_wp2_with (first | ((with_reducible refine gate_dst (N := 2) rfl ?_); refine box_event ?hg (N := 2) ?hd (cs := #[.int .i64 sp, .slice A n cap]) (t := 47) ?hr ?_; (case hd => rfl); (case hg => rfl); (case hr => first | (go_simp; done) | (go_simp; rfl)); intro gP hg_ w1 hm_ hb_; have P1 := Aside0.mk (hm_); have B1 := Aside0.mk (hb_); clear hm_ hb_ hg_) | ((with_reducible refine gate_dst (N := 3) rfl ?_); refine box_event ?hg (N := 3) ?hd (cs := #[.int .i64 tp, .slice B n cb]) (t := 47) ?hr ?_; (case hd => rfl); (case hg => rfl); (case hr => first | (go_simp; done) | (go_simp; rfl)); intro gQ hg_ w2 hm_ hb_; have Q1 := Aside0.mk (hm_); have P2 := Aside0.mk (blk_below P1.out hb_); have B2 := Aside0.mk (below_step B1.out hb_); have p0 := (blk_cell P2.out 0).trans rfl; have p1 := (blk_cell P2.out 1).trans rfl; have r0 := (blk_cell Q1.out 0).trans rfl; have r1 := (blk_cell Q1.out 1).trans rfl; clear hm_ hb_ hg_))
 clear t0 t1 t1' p0 p1 r0 r1
 go_loopw [5] (fun v W => ∃ i : Nat, i ≤ n ∧ v = .int .i64 (i : Int) ∧ Aside0 (W.heap[gP]? = some (.cells #[.int .i64 sp, .slice A n cap] 47 (0, 0)) ∧ W.heap[gQ]? = some (.cells #[.int .i64 tp, .slice B n cb] 47 (0, 0)) ∧ Below w.heap.size w W ∧ ∀ j : Nat, j < i → rd_T31 l (j : Int) = rd_T31 k (j : Int))) (fun v _ => n - (intOf v).toNat)
 case atStart => exact ⟨0, Nat.zero_le _, rfl, ⟨P2.out, Q1.out, B2.out, fun j hj => absurd hj (Nat.not_lt_zero _)⟩⟩
 case round =>
  clear P1 B1 P2 Q1 B2
  obtain ⟨i, hi, rfl, HI⟩ := hrel
  have P2 := Aside0.mk HI.out.1
  have Q2 := Aside0.mk HI.out.2.1
  have B2 := Aside0.mk HI.out.2.2.1
  have F2 := Aside0.mk HI.out.2.2.2
  clear HI
  have p1 := (blk_cell P2.out 1).trans rfl
  by_cases hlt : i < n
  ·have c1 : decide ((i : Int) < (n : Int)) = true := decide_eq_true (by omega)
   have c2_ : decide (i < n) = true := decide_eq_true hlt
   have i1 : ((i : Int) < (n : Int)) = True := eq_true (by omega)
   have i2 : (i < n) = True := eq_true hlt
   have HLT := Aside0.mk hlt
   obtain ⟨ad, A2, c2, rfl, x0, x1, x2, hA2, hCA⟩ := at_T31 (Kd.C_below HC.out B2.out) (i : Int) (by omega) (by omega)
   obtain ⟨bd, B2_, d2, rfl, y0, y1, y2, hB2, hCB⟩ := at_T31 (Kd.C_below HK.out B2.out) (i : Int) (by omega) (by omega)
   rw [Int.toNat_natCast] at x0 x1 x2 y0 y1 y2
   have hL := HLC.out i hlt
   obtain ⟨u, hu⟩ : ∃ u, rd_T31 l (i : Int) = u := ⟨_, rfl⟩
   obtain ⟨v, hv⟩ : ∃ u, rd_T31 k (i : Int) = u := ⟨_, rfl⟩
   rw [hu] at x0 x1 x2 hA2 hCA hL
   rw [hv] at y0 y1 y2 hB2 hCB
   obtain ⟨f0, f1, s⟩ := u
   obtain ⟨g0, g1, t⟩ := v
   obtain ⟨m1, hm1⟩ : ∃ m, s.length = m := ⟨_, rfl⟩
   obtain ⟨m2, hm2⟩ : ∃ m, t.length = m := ⟨_, rfl⟩
   obtain ⟨aq, haq⟩ : ∃ a, ad.add (i * 3) = a := ⟨_, rfl⟩
   obtain ⟨bq, hbq⟩ : ∃ a, bd.add (i * 3) = a := ⟨_, rfl⟩
   simp only [haq, hm1] at x0 x1 x2 hA2 hCA hL
   simp only [hbq, hm2] at y0 y1 y2 hB2 hCB
   have HM1 := Aside0.mk hm1
   have HM2 := Aside0.mk hm2
   have HCA := Aside0.mk (Kd.C_below hCA (below_drew1 (Below.refl _ _)))
   have HCB := Aside0.mk (Kd.C_below hCB (below_drew1 (Below.refl _ _)))
   have HA2 := Aside0.mk hA2
   have HB2 := Aside0.mk hB2
   have HL1 := Aside0.mk hL
   have X0 := Aside0.mk (cell_on1 (below_drew1 (Below.refl _ _)) x0)
   have X1 := Aside0.mk (cell_on1 (below_drew1 (Below.refl _ _)) x1)
   have X2 := Aside0.mk (cell_on1 (below_drew1 (Below.refl _ _)) x2)
   have Y0 := Aside0.mk (cell_on1 (below_drew1 (Below.refl _ _)) y0)
   have Y1 := Aside0.mk (cell_on1 (below_drew1 (Below.refl _ _)) y1)
   have Y2 := Aside0.mk (cell_on1 (below_drew1 (Below.refl _ _)) y2)
   have P3 := Aside0.mk (blk_drew P2.out)
   have Q3 := Aside0.mk (blk_drew Q2.out)
   have B3 := Aside0.mk (below_drew1 B2.out)
   clear hm1 hm2 hCA hCB hA2 hB2 hL x0 x1 x2 y0 y1 y2 hlt
   by_cases hb : f0 = g0 ∧ f1 = g1 ∧ s = t
   ·have HBB : Aside0 (true = decide (f0 = g0 ∧ f1 = g1 ∧ s = t)) := ⟨(decide_eq_true hb).symm⟩
    have HS : Aside0 (rd_T31 l (i : Int) = rd_T31 k (i : Int)) := ⟨by rw [hu, hv]; exact S31_ext hb.1 hb.2.1 hb.2.2⟩
    clear hb hu hv
    go_upto_region 6 with (fail)
    refine start_ (n := 12) (S := fun w' => w'.cell? ⟨gP, 1, none⟩ = some (.slice (some ad) n cap) ∧ w'.cell? ⟨gQ, 1, none⟩ = some (.slice (some bd) n cb) ∧ w'.cell? aq = some (.int .i64 f0) ∧ w'.cell? ⟨aq.block, aq.off + 1, none⟩ = some (.int .i64 f1) ∧ w'.cell? ⟨aq.block, aq.off + 2, none⟩ = some (.slice A2 m1 c2) ∧ w'.cell? bq = some (.int .i64 g0) ∧ w'.cell? ⟨bq.block, bq.off + 1, none⟩ = some (.int .i64 g1) ∧ w'.cell? ⟨bq.block, bq.off + 2, none⟩ = some (.slice B2_ m2 d2)) (ds := []) #[ff_,ff_,ff_,ff_,ff_,ff_,ff_,ff_,ff_,ff_,ff_,ff_] (by kernel_rfl) rfl rfl ⟨(blk_cell P3.out 1).trans rfl, (blk_cell Q3.out 1).trans rfl, X0.out, X1.out, X2.out, Y0.out, Y1.out, Y2.out⟩ (fun hHeld => ?_)
    refine pure_ (i := 0) (N := some 27) (v := ?_) (a' := ?_) #[tt_,ff_,ff_,ff_,ff_,ff_,ff_,ff_,ff_,ff_,ff_,ff_] rfl rfl (by kernel_rfl) (fun _ _ _ h => h) (Or.inl ⟨by rfl, ?_⟩) ?_ ?_
    rotate_left
    ·intro w'
     go_simp
     with_reducible rfl
    rotate_left
    ·simp only [Act.put, List.setIfInBounds_toArray, List.set_cons_zero, List.set_cons_succ, i64_w, i32_w]
     rfl
    refine pure_ (i := 2) (N := some 29) (v := ?_) (a' := ?_) #[tt_,ff_,tt_,ff_,ff_,ff_,ff_,ff_,ff_,ff_,ff_,ff_] rfl rfl (by kernel_rfl) (fun _ _ _ h => h) (Or.inl ⟨by rfl, ?_⟩) ?_ ?_
    rotate_left
    ·intro w'
     go_simp
     with_reducible rfl
    rotate_left
    ·simp only [Act.put, List.setIfInBounds_toArray, List.set_cons_zero, List.set_cons_succ, i64_w, i32_w]
     rfl
    refine pure_ (i := 5) (N := some 32) (v := ?_) (a' := ?_) #[tt_,ff_,tt_,ff_,ff_,tt_,ff_,ff_,ff_,ff_,ff_,ff_] rfl rfl (by kernel_rfl) (fun _ _ _ h => h) (Or.inl ⟨by rfl, ?_⟩) ?_ ?_
    rotate_left
    ·intro w'
     go_simp
     with_reducible rfl
    rotate_left
    ·simp only [Act.put, List.setIfInBounds_toArray, List.set_cons_zero, List.set_cons_succ, i64_w, i32_w]
     rfl
    refine pure_ (i := 7) (N := some 34) (v := ?_) (a' := ?_) #[tt_,ff_,tt_,ff_,ff_,tt_,ff_,tt_,ff_,ff_,ff_,ff_] rfl rfl (by kernel_rfl) (fun _ _ _ h => h) (Or.inl ⟨by rfl, ?_⟩) ?_ ?_
    rotate_left
    ·intro w'
     go_simp
     with_reducible rfl
    rotate_left
    ·simp only [Act.put, List.setIfInBounds_toArray, List.set_cons_zero, List.set_cons_succ, i64_w, i32_w]
     rfl
    refine take_ (i := 1) (N := some 28) (v := ?_) (a' := ?_) #[tt_,tt_,tt_,ff_,ff_,tt_,ff_,tt_,ff_,ff_,ff_,ff_] rfl rfl (by kernel_rfl) (fun _ _ _ h => h) (Or.inl ⟨by rfl, ?_⟩) hHeld ?_ ?_
    rotate_left
    ·rintro w' ⟨s0, s1, s2, s3, s4, s5, s6, s7⟩
     go_simp
     with_reducible rfl
    rotate_left
    ·simp only [Act.put, List.setIfInBounds_toArray, List.set_cons_zero, List.set_cons_succ, i64_w, i32_w]
     rfl
    refine pure_ (i := 3) (N := some 30) (v := ?_) (a' := ?_) #[tt_,tt_,tt_,tt_,ff_,tt_,ff_,tt_,ff_,ff_,ff_,ff_] rfl rfl (by kernel_rfl) (fun _ _ _ h => h) (Or.inl ⟨by rfl, ?_⟩) ?_ ?_
    rotate_left
    ·intro w'
     go_simp
     with_reducible rfl
    rotate_left
    ·simp only [Act.put, List.setIfInBounds_toArray, List.set_cons_zero, List.set_cons_succ, i64_w, i32_w]
     rfl
    refine take_ (i := 4) (N := some 31) (v := ?_) (a' := ?_) #[tt_,tt_,tt_,tt_,tt_,tt_,ff_,tt_,ff_,ff_,ff_,ff_] rfl rfl (by kernel_rfl) (fun _ _ _ h => h) (Or.inl ⟨by rfl, ?_⟩) hHeld ?_ ?_
    rotate_left
    ·rintro w' ⟨s0, s1, s2, s3, s4, s5, s6, s7⟩
     go_simp
     with_reducible rfl
    rotate_left
    ·simp only [Act.put, List.setIfInBounds_toArray, List.set_cons_zero, List.set_cons_succ, i64_w, i32_w]
     rfl
    refine take_ (i := 6) (N := some 33) (v := ?_) (a' := ?_) #[tt_,tt_,tt_,tt_,tt_,tt_,tt_,tt_,ff_,ff_,ff_,ff_] rfl rfl (by kernel_rfl) (fun _ _ _ h => h) (Or.inl ⟨by rfl, ?_⟩) hHeld ?_ ?_
    rotate_left
    ·rintro w' ⟨s0, s1, s2, s3, s4, s5, s6, s7⟩
     go_simp
     with_reducible rfl
    rotate_left
    ·simp only [Act.put, List.setIfInBounds_toArray, List.set_cons_zero, List.set_cons_succ, i64_w, i32_w]
     rfl
    refine pure_ (i := 8) (N := some 35) (v := ?_) (a' := ?_) #[tt_,tt_,tt_,tt_,tt_,tt_,tt_,tt_,tt_,ff_,ff_,ff_] rfl rfl (by kernel_rfl) (fun _ _ _ h => h) (Or.inl ⟨by rfl, ?_⟩) ?_ ?_
    rotate_left
    ·intro w'
     go_simp
     with_reducible rfl
    rotate_left
    ·simp only [Act.put, List.setIfInBounds_toArray, List.set_cons_zero, List.set_cons_succ, i64_w, i32_w]
     rfl
    refine take_ (i := 9) (N := some 36) (v := ?_) (a' := ?_) #[tt_,tt_,tt_,tt_,tt_,tt_,tt_,tt_,tt_,tt_,ff_,ff_] rfl rfl (by kernel_rfl) (fun _ _ _ h => h) (Or.inl ⟨by rfl, ?_⟩) hHeld ?_ ?_
    rotate_left
    ·rintro w' ⟨s0, s1, s2, s3, s4, s5, s6, s7⟩
     go_simp
     with_reducible rfl
    rotate_left
    ·simp only [Act.put, List.setIfInBounds_toArray, List.set_cons_zero, List.set_cons_succ, i64_w, i32_w]
     rfl
    refine one_ (i := 10) (N := some 37) #[tt_,tt_,tt_,tt_,tt_,tt_,tt_,tt_,tt_,tt_,tt_,ff_] rfl rfl (by kernel_rfl) (by decide) (fun K hK => ?_)
    refine goes_ Try.func27 (by kernel_rfl) rfl #[.agg #[.int .i64 f0, .int .i64 f1, .slice A2 m1 c2], .agg #[.int .i64 g0, .int .i64 g1, .slice B2_ m2 d2]] (by rfl) rfl rfl (by (try simp only [List.map_toArray, List.map_cons, List.map_nil]); rfl) ?_
    with_reducible refine (plane_int f0 f1 g0 g1 A2 B2_ m1 m2 c2 d2 s t _ HM1.out HM2.out HCA.out HA2.out HCB.out HB2.out HL1.out true HBB.out).mono ?_
    rintro e w12 ⟨rfl, hm⟩
    refine ⟨_, rfl, ?_⟩
    have B12 := Aside0.mk hm
    have P5 := Aside0.mk (blk_below P3.out B12.out)
    have Q5 := Aside0.mk (blk_below Q3.out B12.out)
    have B5 := Aside0.mk (below_step B3.out B12.out)
    clear hm
    refine hK.out _ _ ⟨(blk_cell P5.out 1).trans rfl, (blk_cell Q5.out 1).trans rfl, cell_on1 B12.out X0.out, cell_on1 B12.out X1.out, cell_on1 B12.out X2.out, cell_on1 B12.out Y0.out, cell_on1 B12.out Y1.out, cell_on1 B12.out Y2.out⟩ (fun hHeld => ?_)
    clear hK K
    refine norm_ (a' := ?_) ?_ ?_
    rotate_left
    ·show Act.put _ (some 37) _ = _
     simp only [Act.put, List.setIfInBounds_toArray, List.set_cons_zero, List.set_cons_succ, i64_w, i32_w]
     rfl
    refine pure_ (i := 11) (N := some 38) (v := ?_) (a' := ?_) #[tt_,tt_,tt_,tt_,tt_,tt_,tt_,tt_,tt_,tt_,tt_,tt_] rfl rfl (by kernel_rfl) (fun _ _ _ h => h) (Or.inl ⟨by rfl, ?_⟩) ?_ ?_
    rotate_left
    ·intro w'
     go_simp
     with_reducible rfl
    rotate_left
    ·simp only [Act.put, List.setIfInBounds_toArray, List.set_cons_zero, List.set_cons_succ, i64_w, i32_w]
     rfl
    refine done_ (by kernel_rfl) ?_
    go_wp2
    have hlt := HLT.out
    go_roundw
    case measure => simp [intOf]; omega
    case rel => exact ⟨i + 1, by omega, by go_num, ⟨P5.out, Q5.out, B5.out, fun j hj => by
     rcases Nat.lt_succ_iff_lt_or_eq.mp hj with h | h
     ·exact F2.out j h
     ·rw [h]; exact HS.out⟩⟩
   ·have HBB : Aside0 (false = decide (f0 = g0 ∧ f1 = g1 ∧ s = t)) := ⟨(decide_eq_false hb).symm⟩
    have HX : Aside0 (false = true ↔ (sp = tp ∧ l = k)) := ⟨⟨(fun h => by cases h), fun h => absurd (by
     have e : rd_T31 l (i : Int) = rd_T31 k (i : Int) := by rw [h.2]
     rw [hu, hv] at e
     injection e with e1 e2 e3
     exact ⟨e1, e2, e3⟩) hb⟩⟩
    clear hb hu hv
    go_upto_region 6 with (fail)
    refine start_ (n := 12) (S := fun w' => w'.cell? ⟨gP, 1, none⟩ = some (.slice (some ad) n cap) ∧ w'.cell? ⟨gQ, 1, none⟩ = some (.slice (some bd) n cb) ∧ w'.cell? aq = some (.int .i64 f0) ∧ w'.cell? ⟨aq.block, aq.off + 1, none⟩ = some (.int .i64 f1) ∧ w'.cell? ⟨aq.block, aq.off + 2, none⟩ = some (.slice A2 m1 c2) ∧ w'.cell? bq = some (.int .i64 g0) ∧ w'.cell? ⟨bq.block, bq.off + 1, none⟩ = some (.int .i64 g1) ∧ w'.cell? ⟨bq.block, bq.off + 2, none⟩ = some (.slice B2_ m2 d2)) (ds := []) #[ff_,ff_,ff_,ff_,ff_,ff_,ff_,ff_,ff_,ff_,ff_,ff_] (by kernel_rfl) rfl rfl ⟨(blk_cell P3.out 1).trans rfl, (blk_cell Q3.out 1).trans rfl, X0.out, X1.out, X2.out, Y0.out, Y1.out, Y2.out⟩ (fun hHeld => ?_)
    refine pure_ (i := 0) (N := some 27) (v := ?_) (a' := ?_) #[tt_,ff_,ff_,ff_,ff_,ff_,ff_,ff_,ff_,ff_,ff_,ff_] rfl rfl (by kernel_rfl) (fun _ _ _ h => h) (Or.inl ⟨by rfl, ?_⟩) ?_ ?_
    rotate_left
    ·intro w'
     go_simp
     with_reducible rfl
    rotate_left
    ·simp only [Act.put, List.setIfInBounds_toArray, List.set_cons_zero, List.set_cons_succ, i64_w, i32_w]
     rfl
    refine pure_ (i := 2) (N := some 29) (v := ?_) (a' := ?_) #[tt_,ff_,tt_,ff_,ff_,ff_,ff_,ff_,ff_,ff_,ff_,ff_] rfl rfl (by kernel_rfl) (fun _ _ _ h => h) (Or.inl ⟨by rfl, ?_⟩) ?_ ?_
    rotate_left
    ·intro w'
     go_simp
     with_reducible rfl
    rotate_left
    ·simp only [Act.put, List.setIfInBounds_toArray, List.set_cons_zero, List.set_cons_succ, i64_w, i32_w]
     rfl
    refine pure_ (i := 5) (N := some 32) (v := ?_) (a' := ?_) #[tt_,ff_,tt_,ff_,ff_,tt_,ff_,ff_,ff_,ff_,ff_,ff_] rfl rfl (by kernel_rfl) (fun _ _ _ h => h) (Or.inl ⟨by rfl, ?_⟩) ?_ ?_
    rotate_left
    ·intro w'
     go_simp
     with_reducible rfl
    rotate_left
    ·simp only [Act.put, List.setIfInBounds_toArray, List.set_cons_zero, List.set_cons_succ, i64_w, i32_w]
     rfl
    refine pure_ (i := 7) (N := some 34) (v := ?_) (a' := ?_) #[tt_,ff_,tt_,ff_,ff_,tt_,ff_,tt_,ff_,ff_,ff_,ff_] rfl rfl (by kernel_rfl) (fun _ _ _ h => h) (Or.inl ⟨by rfl, ?_⟩) ?_ ?_
    rotate_left
    ·intro w'
     go_simp
     with_reducible rfl
    rotate_left
    ·simp only [Act.put, List.setIfInBounds_toArray, List.set_cons_zero, List.set_cons_succ, i64_w, i32_w]
     rfl
    refine take_ (i := 1) (N := some 28) (v := ?_) (a' := ?_) #[tt_,tt_,tt_,ff_,ff_,tt_,ff_,tt_,ff_,ff_,ff_,ff_] rfl rfl (by kernel_rfl) (fun _ _ _ h => h) (Or.inl ⟨by rfl, ?_⟩) hHeld ?_ ?_
    rotate_left
    ·rintro w' ⟨s0, s1, s2, s3, s4, s5, s6, s7⟩
     go_simp
     with_reducible rfl
    rotate_left
    ·simp only [Act.put, List.setIfInBounds_toArray, List.set_cons_zero, List.set_cons_succ, i64_w, i32_w]
     rfl
    refine pure_ (i := 3) (N := some 30) (v := ?_) (a' := ?_) #[tt_,tt_,tt_,tt_,ff_,tt_,ff_,tt_,ff_,ff_,ff_,ff_] rfl rfl (by kernel_rfl) (fun _ _ _ h => h) (Or.inl ⟨by rfl, ?_⟩) ?_ ?_
    rotate_left
    ·intro w'
     go_simp
     with_reducible rfl
    rotate_left
    ·simp only [Act.put, List.setIfInBounds_toArray, List.set_cons_zero, List.set_cons_succ, i64_w, i32_w]
     rfl
    refine take_ (i := 4) (N := some 31) (v := ?_) (a' := ?_) #[tt_,tt_,tt_,tt_,tt_,tt_,ff_,tt_,ff_,ff_,ff_,ff_] rfl rfl (by kernel_rfl) (fun _ _ _ h => h) (Or.inl ⟨by rfl, ?_⟩) hHeld ?_ ?_
    rotate_left
    ·rintro w' ⟨s0, s1, s2, s3, s4, s5, s6, s7⟩
     go_simp
     with_reducible rfl
    rotate_left
    ·simp only [Act.put, List.setIfInBounds_toArray, List.set_cons_zero, List.set_cons_succ, i64_w, i32_w]
     rfl
    refine take_ (i := 6) (N := some 33) (v := ?_) (a' := ?_) #[tt_,tt_,tt_,tt_,tt_,tt_,tt_,tt_,ff_,ff_,ff_,ff_] rfl rfl (by kernel_rfl) (fun _ _ _ h => h) (Or.inl ⟨by rfl, ?_⟩) hHeld ?_ ?_
    rotate_left
    ·rintro w' ⟨s0, s1, s2, s3, s4, s5, s6, s7⟩
     go_simp
     with_reducible rfl
    rotate_left
    ·simp only [Act.put, List.setIfInBounds_toArray, List.set_cons_zero, List.set_cons_succ, i64_w, i32_w]
     rfl
    refine pure_ (i := 8) (N := some 35) (v := ?_) (a' := ?_) #[tt_,tt_,tt_,tt_,tt_,tt_,tt_,tt_,tt_,ff_,ff_,ff_] rfl rfl (by kernel_rfl) (fun _ _ _ h => h) (Or.inl ⟨by rfl, ?_⟩) ?_ ?_
    rotate_left
    ·intro w'
     go_simp
     with_reducible rfl
    rotate_left
    ·simp only [Act.put, List.setIfInBounds_toArray, List.set_cons_zero, List.set_cons_succ, i64_w, i32_w]
     rfl
    refine take_ (i := 9) (N := some 36) (v := ?_) (a' := ?_) #[tt_,tt_,tt_,tt_,tt_,tt_,tt_,tt_,tt_,tt_,ff_,ff_] rfl rfl (by kernel_rfl) (fun _ _ _ h => h) (Or.inl ⟨by rfl, ?_⟩) hHeld ?_ ?_
    rotate_left
    ·rintro w' ⟨s0, s1, s2, s3, s4, s5, s6, s7⟩
     go_simp
     with_reducible rfl
    rotate_left
    ·simp only [Act.put, List.setIfInBounds_toArray, List.set_cons_zero, List.set_cons_succ, i64_w, i32_w]
     rfl
    refine one_ (i := 10) (N := some 37) #[tt_,tt_,tt_,tt_,tt_,tt_,tt_,tt_,tt_,tt_,tt_,ff_] rfl rfl (by kernel_rfl) (by decide) (fun K hK => ?_)
    refine goes_ Try.func27 (by kernel_rfl) rfl #[.agg #[.int .i64 f0, .int .i64 f1, .slice A2 m1 c2], .agg #[.int .i64 g0, .int .i64 g1, .slice B2_ m2 d2]] (by rfl) rfl rfl (by (try simp only [List.map_toArray, List.map_cons, List.map_nil]); rfl) ?_
    with_reducible refine (plane_int f0 f1 g0 g1 A2 B2_ m1 m2 c2 d2 s t _ HM1.out HM2.out HCA.out HA2.out HCB.out HB2.out HL1.out false HBB.out).mono ?_
    rintro e w12 ⟨rfl, hm⟩
    refine ⟨_, rfl, ?_⟩
    have B12 := Aside0.mk hm
    have P5 := Aside0.mk (blk_below P3.out B12.out)
    have Q5 := Aside0.mk (blk_below Q3.out B12.out)
    have B5 := Aside0.mk (below_step B3.out B12.out)
    clear hm
    refine hK.out _ _ ⟨(blk_cell P5.out 1).trans rfl, (blk_cell Q5.out 1).trans rfl, cell_on1 B12.out X0.out, cell_on1 B12.out X1.out, cell_on1 B12.out X2.out, cell_on1 B12.out Y0.out, cell_on1 B12.out Y1.out, cell_on1 B12.out Y2.out⟩ (fun hHeld => ?_)
    clear hK K
    refine norm_ (a' := ?_) ?_ ?_
    rotate_left
    ·show Act.put _ (some 37) _ = _
     simp only [Act.put, List.setIfInBounds_toArray, List.set_cons_zero, List.set_cons_succ, i64_w, i32_w]
     rfl
    refine pure_ (i := 11) (N := some 38) (v := ?_) (a' := ?_) #[tt_,tt_,tt_,tt_,tt_,tt_,tt_,tt_,tt_,tt_,tt_,tt_] rfl rfl (by kernel_rfl) (fun _ _ _ h => h) (Or.inl ⟨by rfl, ?_⟩) ?_ ?_
    rotate_left
    ·intro w'
     go_simp
     with_reducible rfl
    rotate_left
    ·simp only [Act.put, List.setIfInBounds_toArray, List.set_cons_zero, List.set_cons_succ, i64_w, i32_w]
     rfl
    refine done_ (by kernel_rfl) ?_
    go_wp2
    go_ret
    exact PicQ.mk HX.out B5.out
  ·obtain rfl : n = i := by omega
   have c1 : decide ((n : Int) < (n : Int)) = false := decide_eq_false (by omega)
   have HX : Aside0 (sp = tp ∧ l = k) := ⟨⟨H0.out, rdT_ext (by rw [HN.out, HM.out]) (fun j hj => F2.out j (by rw [← HN.out]; exact hj))⟩⟩
   clear F2 hlt
   go_wp2
   go_ret
   exact PicQ.mk ⟨fun _ => HX.out, fun _ => rfl⟩ B2.out
end Go.Proofs.Ytbbebhdcfopmmaa.A
end
section
set_option linter.unusedVariables false
set_option linter.unusedSimpArgs false
namespace Go.Proofs.Ytbbebhdcfopmmaa.A
open Go.RowKit Go.Proofs.YtbbebhdcfopmmaaW.PrintWords Go.Proofs.YtbbebhdcfopmmaaW.PrintLast Go.Proofs.YtbbebhdcfopmmaaW.PrintMore Go.Proofs.Ytbbebhdcfopmmaa.PCodecNames

/-- what Encode tells -/
def encE (sp : Int) (l : List S31) (sd : Int) : Nat := if picE sp l ≠ 0 then picE sp l else if sd < 1 ∨ 1024 < sd then 180 else 0
set_option maxHeartbeats 8000000 in
set_option maxRecDepth 100000 in
theorem Encode_bad (sp sd : Int) (A : Option Addr) (cap n : Nat) (l : List S31) (w : World) (hn : l.length = n) (hC : Kd.C k31 w A n l) (hcap : n ≤ cap) (hl : n < 4611686018427387904) (hc : ∀ i : Nat, i < n → (rd_T31 l (i : Int)).f2.length < 4611686018427387904) (he : encE sp l sd ≠ 0) :
    Calls Try.prog 31 #[.agg #[.int .i64 sp, .slice A n cap], .int .i64 sd] w fun e w' => e = .returned (.tuple #[.slice none 0 0, .int .i64 ((encE sp l sd : Nat) : Int)]) ∧ Below w.heap.size w w' := by
 have hu47 := Try.underlying47
 have HN := Aside0.mk hn
 have HC := Aside0.mk hC
 have HL := Aside0.mk hl
 have HLC := Aside0.mk hc
 have HCAP := Aside0.mk hcap
 obtain ⟨z, hz⟩ : ∃ z, picE sp l = z := ⟨_, rfl⟩
 have HZ := Aside0.mk hz
 unfold encE at he ⊢
 rw [hz] at he ⊢
 clear hz hn hC hl hc hcap
 by_cases h0 : z = 0
 ·subst h0
  rw [if_neg (fun h => h rfl)] at he ⊢
  by_cases h1 : sd < 1 ∨ 1024 < sd
  ·rw [if_pos h1]
   have HX : Aside0 True := ⟨trivial⟩
   by_cases h2 : sd < 1
   ·have t1 : decide (sd < 1) = true := decide_eq_true h2
    clear h1 h2 he
    go_enter Try.func31, Try.ntmps31
    go_wp2_with (first | ((with_reducible refine gate_dst (N := 2) rfl ?_); refine box_event ?hg (N := 2) ?hd (cs := #[.int .i64 sp, .slice A n cap]) (t := 47) ?hr ?_; (case hd => rfl); (case hg => rfl); (case hr => first | (go_simp; done) | (go_simp; rfl)); intro gP hg_ w1 hm_ hb_; have P1 := Aside0.mk (hm_); have B1 := Aside0.mk (hb_); have y0 := (blk_cell P1.out 0).trans rfl; have y1 := (blk_cell P1.out 1).trans rfl; clear hm_ hb_ hg_) | (go_at_call 63; with_reducible refine (picture_chk sp A cap n l _ HN.out (Kd.C_below HC.out B1.out) HCAP.out HL.out HLC.out).mono ?_; rw [HZ.out]; rintro e w2 ⟨rfl, hb⟩; have B2 := Aside0.mk (below_step B1.out hb); clear hb))
    go_ret2
    exact ⟨rfl, B2.out⟩
   ·have t1 : decide (sd < 1) = false := decide_eq_false h2
    have t2 : decide (1024 < sd) = true := decide_eq_true (by omega)
    clear h1 h2 he
    go_enter Try.func31, Try.ntmps31
    go_wp2_with (first | ((with_reducible refine gate_dst (N := 2) rfl ?_); refine box_event ?hg (N := 2) ?hd (cs := #[.int .i64 sp, .slice A n cap]) (t := 47) ?hr ?_; (case hd => rfl); (case hg => rfl); (case hr => first | (go_simp; done) | (go_simp; rfl)); intro gP hg_ w1 hm_ hb_; have P1 := Aside0.mk (hm_); have B1 := Aside0.mk (hb_); have y0 := (blk_cell P1.out 0).trans rfl; have y1 := (blk_cell P1.out 1).trans rfl; clear hm_ hb_ hg_) | (go_at_call 63; with_reducible refine (picture_chk sp A cap n l _ HN.out (Kd.C_below HC.out B1.out) HCAP.out HL.out HLC.out).mono ?_; rw [HZ.out]; rintro e w2 ⟨rfl, hb⟩; have B2 := Aside0.mk (below_step B1.out hb); clear hb))
    go_ret2
    exact ⟨rfl, B2.out⟩
  ·rw [if_neg h1] at he; exact absurd rfl he
 ·rw [if_pos h0]
  have t0 : ((z : Int) != 0) = true := by rw [bne_iff_ne]; omega
  have t0' : (z != 0) = true := by rw [bne_iff_ne]; exact h0
  clear h0 he
  go_enter Try.func31, Try.ntmps31
  go_wp2_with (first | ((with_reducible refine gate_dst (N := 2) rfl ?_); refine box_event ?hg (N := 2) ?hd (cs := #[.int .i64 sp, .slice A n cap]) (t := 47) ?hr ?_; (case hd => rfl); (case hg => rfl); (case hr => first | (go_simp; done) | (go_simp; rfl)); intro gP hg_ w1 hm_ hb_; have P1 := Aside0.mk (hm_); have B1 := Aside0.mk (hb_); have y0 := (blk_cell P1.out 0).trans rfl; have y1 := (blk_cell P1.out 1).trans rfl; clear hm_ hb_ hg_) | (go_at_call 63; with_reducible refine (picture_chk sp A cap n l _ HN.out (Kd.C_below HC.out B1.out) HCAP.out HL.out HLC.out).mono ?_; rw [HZ.out]; rintro e w2 ⟨rfl, hb⟩; have B2 := Aside0.mk (below_step B1.out hb); clear hb))
  go_ret2
  exact ⟨rfl, B2.out⟩
end Go.Proofs.Ytbbebhdcfopmmaa.A
end
section
set_option linter.unusedVariables false
set_option linter.unusedSimpArgs false
namespace Go.Proofs.Ytbbebhdcfopmmaa.A
open Go.RowKit Go.Proofs.YtbbebhdcfopmmaaW.PrintWords Go.Proofs.YtbbebhdcfopmmaaW.PrintLast Go.Proofs.YtbbebhdcfopmmaaW.PrintMore Go.Proofs.Ytbbebhdcfopmmaa.PCodecNames

theorem firstErr_all {l : List S31} (h : firstErr l = 0) : ∀ x ∈ l, checkE x.f0 x.f1 x.f2.length = 0 := by
 induction l with
 | nil => intro x hx; cases hx
 | cons a t ih =>
  unfold firstErr at h
  by_cases h1 : checkE a.f0 a.f1 a.f2.length = 0
  ·rw [if_pos h1] at h
   intro x hx
   rcases List.mem_cons.mp hx with rfl | hx
   ·exact h1
   ·exact ih h x hx
  ·rw [if_neg h1] at h; exact absurd h h1
theorem sameSize_all {a : S31} {l : List S31} (h : sameSize a l = true) : ∀ x ∈ l, x.f0 = a.f0 ∧ x.f1 = a.f1 := by
 induction l with
 | nil => intro x hx; cases hx
 | cons b t ih =>
  unfold sameSize at h
  simp only [Bool.and_eq_true, decide_eq_true_eq] at h
  intro x hx
  rcases List.mem_cons.mp hx with rfl | hx
  ·exact h.1
  ·exact ih h.2 x hx
theorem ints_toNat {l : List Int} (h : ∀ x ∈ l, 0 ≤ x ∧ x < 4294967296) : ints (l.map Int.toNat) = l := by
 unfold ints
 rw [List.map_map]
 refine (List.map_congr_left fun x hx => ?_).trans (List.map_id l)
 exact Int.toNat_of_nonneg (h x hx).1
theorem pic_of {sp : Int} {l : List S31} (h : picE sp l = 0) (hx : ∀ x ∈ l, ∀ y ∈ x.f2, 0 ≤ y ∧ y < 4294967296) : ∃ p : Pic, sp = (p.sp : Int) ∧ l = p.s31s ∧ p.ok := by
 unfold picE at h
 by_cases h1 : l.length = 0 ∨ 4 < l.length
 ·rw [if_pos h1] at h; exact absurd h (by decide)
 rw [if_neg h1] at h
 by_cases h2 : firstErr l = 0
 case neg => rw [if_pos h2] at h; exact absurd h h2
 rw [if_neg (fun hh => hh h2)] at h
 by_cases h3 : sameSize (rd_T31 l 0) l = true
 case neg => rw [if_neg h3] at h; exact absurd h (by decide)
 rw [if_pos h3] at h
 have hS : ¬ (sp < 0 ∨ 4 < sp ∨ (sp ≠ 0 ∧ l.length < 3)) := by
  intro hh
  unfold spaceE at h
  rw [if_pos hh] at h
  exact absurd h (by decide)
 have hF := firstErr_all h2
 have hZ := sameSize_all h3
 have hm0 : rd_T31 l 0 ∈ l := by
  have e := rdT_drop (l := l) (i := 0) (by omega)
  rw [List.drop_zero] at e
  rw [e]
  exact List.mem_cons_self
 obtain ⟨W, H, e1, e2, a1, a2, a3, a4, a5, a6⟩ := checkE_zero (hF _ hm0)
 rw [e1, e2] at hZ
 refine ⟨⟨sp.toNat, W, H, l.map (fun x => x.f2.map Int.toNat)⟩, by show sp = ((sp.toNat : Nat) : Int); omega, ?_, ?_⟩
 ·unfold Pic.s31s
  rw [List.map_map]
  refine ((List.map_congr_left fun x hx' => ?_).trans (List.map_id l)).symm
  exact S31_ext (hZ x hx').1.symm (hZ x hx').2.symm (ints_toNat (hx x hx'))
 ·refine ⟨by show sp.toNat ≤ 4; omega, by show 0 < (l.map _).length; rw [List.length_map]; omega, by show (l.map _).length ≤ 4; rw [List.length_map]; omega, ?_, fun k hk => ?_⟩
  ·show sp.toNat = 0 ∨ 3 ≤ (l.map _).length
   rw [List.length_map]; omega
  ·have hk : k < l.length := by have : k < (l.map (fun x => x.f2.map Int.toNat)).length := hk; rwa [List.length_map] at this
   have e : (l.map (fun x => x.f2.map Int.toNat)).getD k [] = (l[k]).f2.map Int.toNat := by
    rw [List.getD_eq_getElem?_getD, List.getElem?_map, List.getElem?_eq_getElem hk]; rfl
   have hmem : l[k] ∈ l := List.getElem_mem hk
   have hck := hF _ hmem
   rw [(hZ _ hmem).1, (hZ _ hmem).2] at hck
   obtain ⟨W', H', w1, w2, _, _, _, _, _, b6⟩ := checkE_zero hck
   obtain rfl : W = W' := by omega
   obtain rfl : H = H' := by omega
   refine ⟨a1, a2, a3, a4, a5, ?_, ?_⟩
   ·show ((l.map (fun x => x.f2.map Int.toNat)).getD k []).length = W * H
    rw [e, List.length_map]; exact b6
   ·show ∀ i, gt ((l.map (fun x => x.f2.map Int.toNat)).getD k []) i < 4294967296
    rw [e]
    refine gt_lt_of (by decide) fun y hy => ?_
    obtain ⟨z, hz, rfl⟩ := List.mem_map.mp hy
    have := hx _ hmem z hz
    omega
section
variable {p : Pic} {S : Nat}
theorem fewTo_pic (h : p.ok) : ∀ i, i ≤ p.ss.length → fewTo p.s31s i = p.ss.length + i * (p.w * p.h) := by
 intro i
 induction i with
 | zero => intro _; show p.s31s.length = _; rw [h.len]; omega
 | succ i ih =>
  intro hi
  have ho := h.2.2.2.2 i (by omega)
  have hlen : (p.ss.getD i []).length = p.w * p.h := ho.2.2.2.2.2.1
  unfold fewTo
  rw [ih (by omega), p.s31s_at (by omega)]
  show _ + (ints (p.ss.getD i [])).length = _
  rw [ints_length, hlen, Nat.succ_mul]
  omega
theorem few_pic (h : p.ok) (hf : fewB p.s31s = true) : p.ss.length + p.ss.length * (p.w * p.h) ≤ 3000 := by
 unfold fewB at hf
 have h4 := h.2.2.1
 rw [decide_eq_true_eq, h.len, show min p.ss.length 100 = p.ss.length by omega, fewTo_pic h _ (Nat.le_refl _)] at hf
 exact hf
theorem across_min {w : Nat} (hw : 0 < w) (hS : 0 < S) : acrossN w S * min S w ≤ 2 * w := by
 unfold acrossN
 by_cases h : S ≤ w
 ·rw [Nat.min_eq_left h]
  have := Nat.div_mul_le_self (w + S - 1) S
  omega
 ·rw [Nat.min_eq_right (by omega)]
  have : (w + S - 1) / S = 1 := Nat.div_eq_of_lt_le (by omega) (by omega)
  rw [this]; omega
theorem parts_le2 (h : p.ok) : ∀ n, (p.parts S n).length ≤ n * (5 + 7 * (min S p.w * min S p.h)) := by
 intro n
 induction n with
 | zero => exact Nat.zero_le _
 | succ n ih =>
  have hb : (p.body S n).length ≤ 7 * (min S p.w * min S p.h) + 1 := by
   have h1 := packed_len (restsN (p.tile S n) (p.tw S n))
   rw [restsN_length, tile_len] at h1
   have h2 : p.tw S n * p.th S n ≤ min S p.w * min S p.h := Nat.mul_le_mul (by unfold Pic.tw; omega) (by unfold Pic.th; omega)
   have h3 : (p.body S n).length = (packed (restsN (p.tile S n) (p.tw S n))).length := rfl
   omega
  rw [p.parts_len_succ, Nat.succ_mul]
  omega
theorem enc_small (h : p.ok) (h1 : 1 ≤ S) (hf : fewB p.s31s = true) : (encN p S).length ≤ 4194304 := by
 have hk := few_pic h hf
 have hw : 0 < p.w := (h.2.2.2.2 0 h.2.1).1
 have hh : 0 < p.h := (h.2.2.2.2 0 h.2.1).2.1
 have a1 := across_min hw h1
 have a2 := across_min hh h1
 have b1 := parts_le2 (S := S) h (p.count S)
 rw [enc_len]
 have c1 : p.count S ≤ p.w * p.h * p.ss.length := Nat.mul_le_mul (Nat.mul_le_mul (acrossN_le _ _) (acrossN_le _ _)) (Nat.le_refl _)
 have c2 : p.count S * (min S p.w * min S p.h) ≤ 4 * (p.w * p.h) * p.ss.length := by
  have e : p.count S * (min S p.w * min S p.h) = (acrossN p.w S * min S p.w) * (acrossN p.h S * min S p.h) * p.ss.length := by
   unfold Pic.count tilesN; simp only [Nat.mul_assoc, Nat.mul_left_comm, Nat.mul_comm]
  rw [e]
  refine Nat.mul_le_mul ?_ (Nat.le_refl _)
  have := Nat.mul_le_mul a1 a2
  have e2 : 2 * p.w * (2 * p.h) = 4 * (p.w * p.h) := by rw [show (4 : Nat) = 2 * 2 from rfl]; simp only [Nat.mul_assoc, Nat.mul_left_comm, Nat.mul_comm]
  omega
 have e3 : p.count S * (5 + 7 * (min S p.w * min S p.h)) = 5 * p.count S + 7 * (p.count S * (min S p.w * min S p.h)) := by
  rw [Nat.mul_add, Nat.mul_comm (p.count S) 5, Nat.mul_left_comm]
 rw [e3] at b1
 have e4 : p.w * p.h * p.ss.length = p.ss.length * (p.w * p.h) := Nat.mul_comm _ _
 have e5 : 4 * (p.w * p.h) * p.ss.length = 4 * (p.ss.length * (p.w * p.h)) := by rw [Nat.mul_assoc, e4]
 omega
end
end Go.Proofs.Ytbbebhdcfopmmaa.A
end
section
set_option linter.unusedVariables false
set_option linter.unusedSimpArgs false
namespace Go.Proofs.Ytbbebhdcfopmmaa.A
open Go.RowKit Go.Proofs.YtbbebhdcfopmmaaW.PrintWords Go.Proofs.YtbbebhdcfopmmaaW.PrintLast Go.Proofs.YtbbebhdcfopmmaaW.PrintMore Go.Proofs.Ytbbebhdcfopmmaa.PCodecNames

theorem kP_ok : kP.ok := by
 refine ⟨by decide, by decide, by decide, .inl rfl, fun k hk => ?_⟩
 obtain rfl : k = 0 := by have : kP.ss.length = 1 := rfl; omega
 exact ⟨by decide, by decide, by decide, by decide, by decide, rfl, gt_lt_all (by decide) (by decide)⟩
theorem kP_C {w : World} {g1 g2 : Nat} (h1 : w.heap[g1]? = some (.cells #[.int .u32 0] 24 (0, 0))) (h2 : w.heap[g2]? = some (.cells #[.int .i64 1, .int .i64 1, .slice (some ⟨g1, 0, none⟩) 1 1] 31 (0, 0))) : Kd.C k31 w (some ⟨g2, 0, none⟩) 1 [⟨1, 1, [0]⟩] := by
 refine ⟨rfl, by decide, fun _ => ⟨_, rfl, fun j p hj => ?_⟩⟩
 match j, hj with
 | 0, hj =>
  injection hj with hj
  subst hj
  have hC : (Kd.int .u32).C w (some ⟨g1, 0, none⟩) 1 [0] := C_ints (xs := [0]) (C_new [0] h1 rfl (by decide))
  refine ⟨[.int .i64 1, .int .i64 1, .slice (some ⟨g1, 0, none⟩) 1 1], rfl, k31_mk w ⟨1, 1, [0]⟩ (by decide) hC, fun i u hu => ?_⟩
  rw [add_plain, blk_cell h2]
  match i, hu with
  | 0, hu => simpa using hu
  | 1, hu => simpa using hu
  | 2, hu => simpa using hu
 | j + 1, hj => simp at hj
theorem kB_8 : ∀ i, gt kB i < 256 := gt_lt_all (by decide) (by decide)
theorem Enc_k (w : World) {g1 g2 : Nat} (h1 : w.heap[g1]? = some (.cells #[.int .u32 0] 24 (0, 0))) (h2 : w.heap[g2]? = some (.cells #[.int .i64 1, .int .i64 1, .slice (some ⟨g1, 0, none⟩) 1 1] 31 (0, 0))) :
    Calls Try.prog 31 #[.agg #[.int .i64 0, .slice (some ⟨g2, 0, none⟩) 1 1], .int .i64 1] w fun e w' => ∃ ad c, e = .returned (.tuple #[.slice (some ad) 25 c, .int .i64 0]) ∧ 25 ≤ c ∧ (nat .u8).R 5 w' w.heap.size (fun _ => True) (.slice (some ad) 25 c) kB ∧ Below w.heap.size w w' := by
 refine (Encode_calls2 kP 1 1 [⟨1, 1, [0]⟩] (some ⟨g2, 0, none⟩) w rfl kP_ok (by decide) (by decide) (kP_C h1 h2) (by decide)).mono ?_
 rintro e w' ⟨v, rfl, hO, hb⟩
 rw [kB_enc] at hO
 obtain ⟨ad, c, rfl⟩ := Kd.R_slice1 hO (by decide)
 exact ⟨ad, c, rfl, (Kd.R_reads' hO).2.1, Kd.R_mono hO (fun _ _ => trivial), hb⟩
theorem size_alloc1 (w : World) (o : Obj) : (w.alloc o).heap.size = w.heap.size + 1 := by simp
theorem blk_new1 (w : World) (o1 o2 : Obj) : ((w.alloc o1).alloc o2).heap[w.heap.size + 1]? = some o2 := by
 have h := blk_new (w.alloc o1) o2
 rw [size_alloc1] at h
 exact h
theorem blk_old1 (w : World) (o1 o2 : Obj) : ((w.alloc o1).alloc o2).heap[w.heap.size]? = some o1 := blk_below (blk_new w o1) ((Below.refl _ _).alloc (Nat.le_refl _) _)
theorem below1 (w : World) (o : Obj) : Below w.heap.size w (w.alloc o) := (Below.refl _ _).alloc (Nat.le_refl _) _
theorem below2 (w : World) (o1 o2 : Obj) : Below w.heap.size w ((w.alloc o1).alloc o2) := below_step (below1 w o1) (below1 _ o2)
/-- the example's bytes -/
def KB (w : World) (ad : Addr) (c : Nat) : Prop := 25 ≤ c ∧ (nat .u8).C w (some ad) 25 kB
theorem KB.below {w w' : World} {ad : Addr} {c : Nat} (h : KB w ad c) (hb : Below w.heap.size w w') : KB w' ad c := ⟨h.1, Kd.C_below h.2 hb⟩
theorem Enc_k2 (w : World) :
    Calls Try.prog 31 #[.agg #[.int .i64 0, .slice (some ⟨w.heap.size + 1, 0, none⟩) 1 1], .int .i64 1] ((w.alloc (.cells #[.int .u32 0] 24 (0, 0))).alloc (.cells #[.int .i64 1, .int .i64 1, .slice (some ⟨w.heap.size, 0, none⟩) 1 1] 31 (0, 0))) fun e w' => ∃ ad c, e = .returned (.tuple #[.slice (some ad) 25 c, .int .i64 0]) ∧ 25 ≤ c ∧ KB w' ad c ∧ Below w.heap.size w w' := by
 refine (Enc_k _ (blk_old1 w _ _) (blk_new1 w _ _)).mono ?_
 rintro e w' ⟨ad, c, rfl, hc, hR, hb⟩
 exact ⟨ad, c, rfl, hc, ⟨hc, (Kd.R_reads' hR).2.2⟩, below_step (below2 w _ _) hb⟩
theorem same16 (w : World) {ad : Addr} {c g : Nat} (h : KB w ad c) (hg : w.heap[g]? = some (.cells #[.int .u8 72, .int .u8 76, .int .u8 68, .int .u8 49, .int .u8 0, .int .u8 1, .int .u8 0, .int .u8 1, .int .u8 0, .int .u8 1, .int .u8 0, .int .u8 1, .int .u8 0, .int .u8 0, .int .u8 0, .int .u8 1] 5 (0, 0))) :
    Calls Try.prog 18 #[.slice (some ad) 16 c, .slice (some ⟨g, 0, none⟩) 16 16] w fun e w' => e = .returned (.bool true) ∧ Below w.heap.size w w' := by
 have h1 := C_sub (i := 0) (n := 16) h.2 (by decide)
 refine (same_nat (some ad) (some ⟨g, 0, none⟩) c 16 [72, 76, 68, 49, 0, 1, 0, 1, 0, 1, 0, 1, 0, 0, 0, 1] [72, 76, 68, 49, 0, 1, 0, 1, 0, 1, 0, 1, 0, 0, 0, 1] w h1 (C_new _ hg rfl (by decide)) (by have := h.1; simp; omega) (by decide) (by decide)).mono ?_
 rintro e w' ⟨rfl, hd⟩
 exact ⟨by rw [decide_eq_true rfl], Drawn0.to_below hd⟩
theorem same5 (w : World) {ad : Addr} {c g : Nat} (h : KB w ad c) (hg : w.heap[g]? = some (.cells #[.int .u8 0, .int .u8 210, .int .u8 2, .int .u8 239, .int .u8 141] 5 (0, 0))) :
    Calls Try.prog 18 #[.slice (some ⟨ad.block, ad.off + 20, none⟩) 5 (c - 20), .slice (some ⟨g, 0, none⟩) 5 5] w fun e w' => e = .returned (.bool true) ∧ Below w.heap.size w w' := by
 have h1 := C_sub (i := 20) (n := 5) h.2 (by decide)
 refine (same_nat (some (ad.add 20)) (some ⟨g, 0, none⟩) (c - 20) 5 [0, 210, 2, 239, 141] [0, 210, 2, 239, 141] w h1 (C_new _ hg rfl (by decide)) (by have := h.1; simp; omega) (by decide) (by decide)).mono ?_
 rintro e w' ⟨rfl, hd⟩
 exact ⟨by rw [decide_eq_true rfl], Drawn0.to_below hd⟩
/-- the example's picture -/
structure KP (w : World) (ap az : Addr) (cz : Nat) : Prop where
 a0 : w.cell? ap = some (.int .i64 1)
 a1 : w.cell? ⟨ap.block, ap.off + 1, none⟩ = some (.int .i64 1)
 a2 : w.cell? ⟨ap.block, ap.off + 2, none⟩ = some (.slice (some az) 1 cz)
 z : (nat .u32).C w (some az) 1 [0]
 cz1 : 1 ≤ cz
theorem cell_on {w w' : World} {a : Addr} {v : Value} (hb : Below w.heap.size w w') (h : w.cell? a = some v) : w'.cell? a = some v := (hb.cell (World.block_lt_of_cell? _ _ h)).trans h
theorem KP.below {w w' : World} {ap az : Addr} {cz : Nat} (h : KP w ap az cz) (hb : Below w.heap.size w w') : KP w' ap az cz := ⟨cell_on hb h.a0, cell_on hb h.a1, cell_on hb h.a2, Kd.C_below h.z hb, h.cz1⟩
theorem KP.of {w : World} {B : Nat} {vp : Value} {hs : List Hd} (H : PicOwn B w vp 1 1 hs [[0]]) : ∃ ap cp az cz, vp = .slice (some ap) 1 cp ∧ KP w ap az cz := by
 have hl : hs.length = 1 := H.len
 obtain ⟨ap, cp, rfl⟩ := Kd.R_slice1 H.row (by rw [List.length_map, hl]; decide)
 rw [List.length_map, hl] at H ⊢
 obtain ⟨s0, s1, s2⟩ := H.cells (k := 0) (by omega)
 have hR := H.pls 0 (by omega)
 obtain ⟨az, cz, hz⟩ := Kd.R_slice1 hR (by decide)
 have hR' := hR
 rw [hz] at s2 hR'
 have h4 := Kd.R_reads' hR'
 rw [add_at _ _ _ (by decide)] at s1 s2
 have e : ap.add (0 * 3) = ap := rfl
 rw [e] at s0 s1 s2
 exact ⟨ap, cp, az, cz, rfl, s0, s1, s2, h4.2.2, h4.2.1⟩
theorem Dec_k (w : World) {ad : Addr} {c : Nat} (h : KB w ad c) :
    Calls Try.prog 36 #[.slice (some ad) 25 c] w fun e w' => ∃ ap cp az cz, e = .returned (.tuple #[.agg #[.int .i64 0, .slice (some ap) 1 cp], .int .i64 0]) ∧ KP w' ap az cz ∧ Below w.heap.size w w' := by
 refine (Decode_any (some ad) c kB w h.2 h.1 kB_8 (by decide)).mono ?_
 rintro e w' ⟨hb, h1⟩
 obtain ⟨k1, k2, k3, k4, k5, k6, k7, k8⟩ := kB_dec
 rcases h1 with ⟨h2, _⟩ | ⟨_, vp, rfl, hs, hP⟩
 ·exact absurd k1 h2
 ·rw [k4, k5, k7] at hP
  obtain ⟨ap, cp, az, cz, rfl, hK⟩ := KP.of hP
  rw [k2]
  exact ⟨ap, cp, az, cz, rfl, hK, hb⟩
theorem Read_k (w : World) {ad : Addr} {c : Nat} (h : KB w ad c) :
    Calls Try.prog 37 #[.slice (some ad) 25 c] w fun e w' => e = .returned (.tuple #[.agg #[.int .i64 0, .int .i64 1, .int .i64 1, .int .i64 1, .int .i64 1], .int .i64 0]) ∧ Below w.heap.size w w' := by
 obtain ⟨k1, k2, k3, k4, k5, k6, k7, k8⟩ := kB_dec
 exact (Read_ok 0 1 1 1 1 (some ad) c kB w h.2 h.1 kB_8 (by decide) k8 k2 k3 k4 k5 k6).mono fun _ _ h => h
theorem Reg_k (w : World) {ad : Addr} {c : Nat} (h : KB w ad c) :
    Calls Try.prog 40 #[.slice (some ad) 25 c, .agg #[.int .i64 0, .int .i64 0, .int .i64 1, .int .i64 1]] w fun e w' => ∃ ap cp az cz ar cr, e = .returned (.tuple #[.agg #[.int .i64 0, .slice (some ap) 1 cp], .slice (some ar) 1 cr, .int .i64 0]) ∧ KP w' ap az cz ∧ (nat .i64).C w' (some ar) 1 [0] ∧ 1 ≤ cr ∧ Below w.heap.size w w' := by
 refine (Region_any (some ad) c kB 0 0 1 1 w h.2 h.1 kB_8 (by decide)).mono ?_
 rintro e w' ⟨hb, h1⟩
 obtain ⟨k1, k2, k3⟩ := kB_reg
 obtain ⟨_, q2, _⟩ := kB_dec
 rcases h1 with ⟨h2, _⟩ | ⟨_, vp, vr, rfl, hs, hP, hV⟩
 ·exact absurd k1 h2
 ·rw [q2]
  have hP' : PicOwn w.heap.size w' vp 1 1 hs (regLaid kB 0 0 1 1 (hK kB)) := hP
  have hV' : (nat .i64).R 3 w' w.heap.size (fun k => vr.ownBlock = some k) vr (regRead kB 0 0 1 1 (hK kB)) := hV
  rw [k2] at hP'
  rw [k3] at hV'
  obtain ⟨ap, cp, az, cz, rfl, hK⟩ := KP.of hP'
  obtain ⟨ar, cr, rfl⟩ := Kd.R_slice1 hV' (by decide)
  have h4 := Kd.R_reads' hV'
  exact ⟨ap, cp, az, cz, ar, cr, rfl, hK, h4.2.2, h4.2.1, hb⟩
theorem Dec_n (w : World) {ad : Addr} {c n : Nat} (h : KB w ad c) (hn : n ≤ 25) (hd : decodeE (kB.take n) = 182) :
    Calls Try.prog 36 #[.slice (some ad) n c] w fun e w' => e = .returned (.tuple #[.agg #[.int .i64 0, .slice none 0 0], .int .i64 182]) ∧ Below w.heap.size w w' := by
 have hl : (kB.take n).length = n := by rw [List.length_take]; exact Nat.min_eq_left hn
 have h2 := Kd.C_take h.2 hn
 have := Decode_any (some ad) c (kB.take n) w h2 (by rw [hl]; have := h.1; omega) (fun i => subN_lt (i := 0) (n := n) kB_8 i) (by rw [hl]; omega)
 rw [hl] at this
 refine this.mono ?_
 rintro e w' ⟨hb, h1⟩
 rcases h1 with ⟨_, rfl⟩ | ⟨h2, _⟩
 ·exact ⟨by rw [hd]; rfl, hb⟩
 ·rw [hd] at h2; exact absurd h2 (by decide)
theorem eq60 (a b c d e x y z u v : Int) (w : World) : (Op.equalIn 10000 60 (.agg #[.int .i64 a, .int .i64 b, .int .i64 c, .int .i64 d, .int .i64 e]) (.agg #[.int .i64 x, .int .i64 y, .int .i64 z, .int .i64 u, .int .i64 v])).run Try.prog w = .ok (a == x && (b == y && (c == z && (d == u && (e == v))))) w := by
 refine eqA_of Try.underlying60 (by kernel_rfl) ?_
 refine eqf_cons (by rfl) (by go_simp; rfl) (by go_simp; rfl) (by go_simp) ?_
 refine eqf_cons (by rfl) (by go_simp; rfl) (by go_simp; rfl) (by go_simp) ?_
 refine eqf_cons (by rfl) (by go_simp; rfl) (by go_simp; rfl) (by go_simp) ?_
 refine eqf_cons (by rfl) (by go_simp; rfl) (by go_simp; rfl) (by go_simp) ?_
 exact eqf_last (by rfl) (by go_simp; rfl) (by go_simp; rfl) (by go_simp)
theorem words_k1 (w : World) {az : Addr} {cz g : Nat} (h : (nat .u32).C w (some az) 1 [0]) (h1 : 1 ≤ cz) (hg : w.heap[g]? = some (.cells #[.int .u32 0] 24 (0, 0))) :
    Calls Try.prog 26 #[.slice (some az) 1 cz, .slice (some ⟨g, 0, none⟩) 1 1] w fun e w' => e = .returned (.bool true) ∧ Below w.heap.size w w' := by
 refine (words_nat (some az) (some ⟨g, 0, none⟩) cz 1 [0] [0] w h (C_new _ hg rfl (by decide)) h1 (by decide) (by decide)).mono ?_
 rintro e w' ⟨rfl, hd⟩
 exact ⟨by rw [decide_eq_true rfl], Drawn0.to_below hd⟩
theorem plane_k1 (w : World) {az ay : Addr} {cz cy : Nat} (h : (nat .u32).C w (some ay) 1 [0]) (h1 : 1 ≤ cy) (h' : (nat .u32).C w (some az) 1 [0]) (h1' : 1 ≤ cz) :
    Calls Try.prog 27 #[.agg #[.int .i64 1, .int .i64 1, .slice (some ay) 1 cy], .agg #[.int .i64 1, .int .i64 1, .slice (some az) 1 cz]] w fun e w' => e = .returned (.bool true) ∧ Below w.heap.size w w' := by
 refine (plane_nat (some ay) (some az) cy cz 1 1 1 1 [0] [0] w h h' h1 h1' (by decide)).mono ?_
 rintro e w' ⟨rfl, hd⟩
 exact ⟨by rw [decide_eq_true ⟨rfl, rfl, rfl⟩], hd⟩
theorem ints_k1 (w : World) {az : Addr} {cz g : Nat} (h : (nat .i64).C w (some az) 1 [0]) (h1 : 1 ≤ cz) (hg : w.heap[g]? = some (.cells #[.int .i64 0] 3 (0, 0))) :
    Calls Try.prog 41 #[.slice (some az) 1 cz, .slice (some ⟨g, 0, none⟩) 1 1] w fun e w' => e = .returned (.bool true) ∧ Below w.heap.size w w' := by
 refine (intsq_nat (some az) (some ⟨g, 0, none⟩) cz 1 [0] [0] w h (C_new _ hg rfl (by decide)) h1 (by decide) (by decide)).mono ?_
 rintro e w' ⟨rfl, hd⟩
 exact ⟨by rw [decide_eq_true rfl], Drawn0.to_below hd⟩
theorem Rests_k (w : World) : Calls Try.prog 22 #[.agg #[.int .i64 2, .int .i64 1, .slice (some ⟨w.heap.size, 0, none⟩) 2 2]] (w.alloc (.cells #[.int .u32 5, .int .u32 3] 24 (0, 0))) fun e w' => ∃ az cz, e = .returned (.tuple #[.slice (some az) 2 cz, .int .i64 0]) ∧ (nat .u32).C w' (some az) 2 [5, 4294967294] ∧ 2 ≤ cz ∧ Below w.heap.size w w' := by
 have hok : (Pl.mk 2 1 [5, 3]).ok := ⟨by decide, by decide, by decide, by decide, by decide, rfl, gt_lt_all (by decide) (by decide)⟩
 have hf := Rests_f hok ([5, 3].length + 1) (Nat.le_refl _)
 rw [show restsN [5, 3] 2 = [5, 4294967294] from k_rests.1] at hf
 refine (Rests_own (x := 2) (y := 1) (zs := [5, 3]) (rs := [5, 4294967294]) _ (C_new [5, 3] (blk_new w _) rfl (by decide)) (by decide) hf).mono ?_
 rintro e w' ⟨v, rfl, hR, hb⟩
 obtain ⟨az, cz, rfl⟩ := Kd.R_slice1 hR (by decide)
 have h4 := Kd.R_reads' hR
 exact ⟨az, cz, rfl, h4.2.2, h4.2.1, below_step (below1 w _) hb⟩
theorem Plane_k (w : World) : Calls Try.prog 24 #[.int .i64 2, .int .i64 1, .slice (some ⟨w.heap.size, 0, none⟩) 2 2] (w.alloc (.cells #[.int .u32 5, .int .u32 4294967294] 24 (0, 0))) fun e w' => ∃ az cz, e = .returned (.tuple #[.agg #[.int .i64 2, .int .i64 1, .slice (some az) 2 cz], .int .i64 0]) ∧ (nat .u32).C w' (some az) 2 [5, 3] ∧ 2 ≤ cz ∧ Below w.heap.size w w' := by
 have hok : (Pl.mk 2 1 [5, 4294967294]).ok := ⟨by decide, by decide, by decide, by decide, by decide, rfl, gt_lt_all (by decide) (by decide)⟩
 have hf := Plane_f hok ([5, 4294967294].length + 1) (Nat.le_refl _)
 rw [show planeN [5, 4294967294] 2 = [5, 3] from k_rests.2] at hf
 refine (Plane_own (x := 2) (y := 1) (rs := [5, 4294967294]) (zs := [5, 3]) _ (C_new [5, 4294967294] (blk_new w _) rfl (by decide)) (by decide) hf).mono ?_
 rintro e w' ⟨v, rfl, hR, hb⟩
 obtain ⟨az, cz, rfl⟩ := Kd.R_slice1 hR (by decide)
 have h4 := Kd.R_reads' hR
 exact ⟨az, cz, rfl, h4.2.2, h4.2.1, below_step (below1 w _) hb⟩
theorem words_k2 (w : World) {az : Addr} {cz x y : Nat} (h : (nat .u32).C w (some az) 2 [x, y]) (h1 : 2 ≤ cz) :
    Calls Try.prog 26 #[.slice (some az) 2 cz, .slice (some ⟨w.heap.size, 0, none⟩) 2 2] (w.alloc (.cells #[.int .u32 (x : Int), .int .u32 (y : Int)] 24 (0, 0))) fun e w' => e = .returned (.bool true) ∧ Below w.heap.size w w' := by
 refine (words_nat (some az) (some ⟨w.heap.size, 0, none⟩) cz 2 [x, y] [x, y] _ (Kd.C_below h (below1 w _)) (C_new _ (blk_new w _) rfl (by simp)) h1 (by simp) (by simp)).mono ?_
 rintro e w' ⟨rfl, hd⟩
 exact ⟨by rw [decide_eq_true rfl], below_step (below1 w _) (Drawn0.to_below hd)⟩
theorem words_ka (w : World) {az : Addr} {cz : Nat} (h : (nat .u32).C w (some az) 2 [5, 4294967294]) (h1 : 2 ≤ cz) :
    Calls Try.prog 26 #[.slice (some az) 2 cz, .slice (some ⟨w.heap.size, 0, none⟩) 2 2] (w.alloc (.cells #[.int .u32 5, .int .u32 4294967294] 24 (0, 0))) fun e w' => e = .returned (.bool true) ∧ Below w.heap.size w w' := words_k2 w h h1
theorem words_kb (w : World) {az : Addr} {cz : Nat} (h : (nat .u32).C w (some az) 2 [5, 3]) (h1 : 2 ≤ cz) :
    Calls Try.prog 26 #[.slice (some az) 2 cz, .slice (some ⟨w.heap.size, 0, none⟩) 2 2] (w.alloc (.cells #[.int .u32 5, .int .u32 3] 24 (0, 0))) fun e w' => e = .returned (.bool true) ∧ Below w.heap.size w w' := words_k2 w h h1
theorem C_newF {k : IntKind} {w : World} {g : Nat} {cells : Array Value} {e : TypeId} {fr : Nat × Nat} (xs : List Nat) (hb : w.heap[g]? = some (.cells cells e fr)) (hc : cells = (xs.map (fun x : Nat => Value.int k x)).toArray) (hl : xs.length ≤ 9223372036854775807) : (nat k).C w (some ⟨g, 0, none⟩) xs.length xs := by
 refine Kd.C_of_reads (d := 0) ⟨rfl, hl, fun hp => ⟨_, rfl, fun j hj => ?_⟩⟩
 rw [add_plain, show w.cell? ⟨g, j, none⟩ = cells[j]? by simp [World.cell?, hb], hc]
 simp [List.getElem?_eq_getElem hj]
theorem Sum_k (w : World) : Calls Try.prog 16 #[.slice (some ⟨w.heap.size, 0, none⟩) 9 9] (w.alloc (.cells #[.int .u8 49, .int .u8 50, .int .u8 51, .int .u8 52, .int .u8 53, .int .u8 54, .int .u8 55, .int .u8 56, .int .u8 57] 5 (9, 10))) fun e w' => e = .returned (.int .u32 3421780262) ∧ Below w.heap.size w w' := by
 refine (Sum_calls (some ⟨w.heap.size, 0, none⟩) 9 [49, 50, 51, 52, 53, 54, 55, 56, 57] _ (C_newF _ (blk_new w _) rfl (by decide)) (by decide) (gt_lt_all (by decide) (by decide)) (by decide)).mono ?_
 rintro e w' ⟨rfl, hb⟩
 exact ⟨by rw [crc_nine]; rfl, below_step (below1 w _) hb⟩
theorem Guess_k1 (w : World) : Calls Try.prog 19 #[.int .u32 2, .int .u32 3, .int .u32 1] w fun e w' => e = .returned (.int .u32 3) ∧ Below w.heap.size w w' := codec_Guess.calls 2 3 1 3 w (by decide +kernel)
theorem Guess_k2 (w : World) : Calls Try.prog 19 #[.int .u32 2, .int .u32 3, .int .u32 5] w fun e w' => e = .returned (.int .u32 2) ∧ Below w.heap.size w w' := codec_Guess.calls 2 3 5 2 w (by decide +kernel)
theorem Guess_k3 (w : World) : Calls Try.prog 19 #[.int .u32 0, .int .u32 2147483648, .int .u32 0] w fun e w' => e = .returned (.int .u32 2147483648) ∧ Below w.heap.size w w' := codec_Guess.calls 0 2147483648 0 2147483648 w (by decide +kernel)
/-- all that stands while the answers are looked at -/
structure KS (w : World) (g3 g5 g7 : Nat) (ap az aq ay ar ad : Addr) (cp cz cq cy cr c : Nat) : Prop where
 c3 : w.cell? ⟨g3, 1, none⟩ = some (.slice (some ap) 1 cp)
 c7 : w.cell? ⟨g7, 1, none⟩ = some (.slice (some aq) 1 cq)
 h0 : w.cell? ⟨g5, 0, none⟩ = some (.int .i64 0)
 h1 : w.cell? ⟨g5, 1, none⟩ = some (.int .i64 1)
 h2 : w.cell? ⟨g5, 2, none⟩ = some (.int .i64 1)
 h3 : w.cell? ⟨g5, 3, none⟩ = some (.int .i64 1)
 h4 : w.cell? ⟨g5, 4, none⟩ = some (.int .i64 1)
 p : KP w ap az cz
 q : KP w aq ay cy
 r : (nat .i64).C w (some ar) 1 [0]
 r1 : 1 ≤ cr
 b : KB w ad c
theorem KS.below {w w' : World} {g3 g5 g7 : Nat} {ap az aq ay ar ad : Addr} {cp cz cq cy cr c : Nat} (h : KS w g3 g5 g7 ap az aq ay ar ad cp cz cq cy cr c) (hb : Below w.heap.size w w') : KS w' g3 g5 g7 ap az aq ay ar ad cp cz cq cy cr c :=
 ⟨cell_on hb h.c3, cell_on hb h.c7, cell_on hb h.h0, cell_on hb h.h1, cell_on hb h.h2, cell_on hb h.h3, cell_on hb h.h4, h.p.below hb, h.q.below hb, Kd.C_below h.r hb, h.r1, h.b.below hb⟩

set_option maxHeartbeats 16000000 in
set_option maxRecDepth 100000 in
theorem known_calls (w : World) : Calls Try.prog 15 #[] w fun e w' => e = .returned (.bool true) ∧ Below w.heap.size w w' := by
 have hu47 := Try.underlying47
 have hu31 := Try.underlying31
 have hu60 := Try.underlying60
 have hu73 := Try.underlying73
 go_enter Try.func15, Try.ntmps15
 go_upto_region 2 with (go_at_call 31; with_reducible refine (Enc_k2 w).mono ?_; rintro e w1 ⟨ad, c, rfl, hc, hR, hb⟩; have B1 := Aside0.mk hb; have K1 := Aside0.mk hR; clear hR hb)
 have k1 : 16 ≤ c := by omega
 have k2 : 20 ≤ c := by omega
 go_upto_region 4 with (first | (go_at_call 18; with_reducible refine (same16 _ (K1.out.below (below1 w1 _)) (blk_new w1 _)).mono ?_; rintro e w2 ⟨rfl, hb⟩; have K2 := Aside0.mk ((K1.out.below (below1 w1 _)).below hb); have B2 := Aside0.mk (below_step (below_step B1.out (below1 w1 _)) hb); clear hb) | (go_at_call 18; with_reducible refine (same5 _ (K2.out.below (below1 w2 _)) (blk_new w2 _)).mono ?_; rintro e w3 ⟨rfl, hb⟩; have K3 := Aside0.mk ((K2.out.below (below1 w2 _)).below hb); have B3 := Aside0.mk (below_step (below_step B2.out (below1 w2 _)) hb); clear hb))
 clear K1 K2 B1 B2
 go_upto_region 5 with (first | (go_at_call 36; with_reducible refine (Dec_k _ K3.out).mono ?_; rintro e w4 ⟨ap, cp, az, cz, rfl, hP, hb⟩; have P4 := Aside0.mk hP; have K4 := Aside0.mk (K3.out.below hb); have B4 := Aside0.mk (below_step B3.out hb); clear hP hb) | ((with_reducible refine gate_dst (N := 3) rfl ?_); refine box_event ?hg (N := 3) ?hd (cs := #[.int .i64 0, .slice none 0 0]) (t := 47) ?hr ?_; (case hd => rfl); (case hg => rfl); (case hr => first | (go_simp; done) | (go_simp; rfl)); intro g3 hg_ w5 hm_ hb_; have X_ := Aside0.mk (put2 (x := .int .i64 0) (y := .slice (some ap) 1 cp) hm_ rfl); have HB_ := Aside0.mk ((show Below w4.heap.size w4 w5 from hb_).trans (X_.out.2.2 _ (by rw [hg_]; exact Nat.le_refl _))); have P6 := Aside0.mk (P4.out.below HB_.out); have K6 := Aside0.mk (K4.out.below HB_.out); have B6 := Aside0.mk (below_step B4.out HB_.out); have M_ := Aside0.mk hm_; have o0 := (blk_cell M_.out 0).trans rfl; have o1 := (blk_cell M_.out 1).trans rfl; have fo0 := blk_frozen M_.out 0; have fo1 := blk_frozen M_.out 1; have G6 := Aside0.mk (X_.out.1); clear hm_ hb_ hg_ X_ HB_ M_))
 generalize (w5.setCell ⟨g3, 0, none⟩ (.int .i64 0)).setCell ⟨g3, 1, none⟩ (.slice (some ap) 1 cp) = w6 at *
 clear o0 o1 fo0 fo1 K3 B3 K4 B4 P4
 go_upto_region 6 with (first | (go_at_call 37; with_reducible refine (Read_k _ K6.out).mono ?_; rintro e w7 ⟨rfl, hb⟩; have P7 := Aside0.mk (P6.out.below hb); have K7 := Aside0.mk (K6.out.below hb); have G7 := Aside0.mk (blk_below G6.out hb); have B7 := Aside0.mk (below_step B6.out hb); clear hb) | ((with_reducible refine gate_dst (N := 5) rfl ?_); refine box_event ?hg (N := 5) ?hd (cs := #[.int .i64 0, .int .i64 0, .int .i64 0, .int .i64 0, .int .i64 0]) (t := 60) ?hr ?_; (case hd => rfl); (case hg => rfl); (case hr => first | (go_simp; done) | (go_simp; rfl)); intro g5 hg_ w8 hm_ hb_; have X_ := Aside0.mk (put5 (x := .int .i64 0) (y := .int .i64 1) (z := .int .i64 1) (u := .int .i64 1) (v := .int .i64 1) hm_ rfl); have HB_ := Aside0.mk ((show Below w7.heap.size w7 w8 from hb_).trans (X_.out.2.2 _ (by rw [hg_]; exact Nat.le_refl _))); have P9 := Aside0.mk (P7.out.below HB_.out); have K9 := Aside0.mk (K7.out.below HB_.out); have G9 := Aside0.mk (blk_below G7.out HB_.out); have B9 := Aside0.mk (below_step B7.out HB_.out); have M_ := Aside0.mk hm_; have o0 := (blk_cell M_.out 0).trans rfl; have o1 := (blk_cell M_.out 1).trans rfl; have o2 := (blk_cell M_.out 2).trans rfl; have o3 := (blk_cell M_.out 3).trans rfl; have o4 := (blk_cell M_.out 4).trans rfl; have fo0 := blk_frozen M_.out 0; have fo1 := blk_frozen M_.out 1; have fo2 := blk_frozen M_.out 2; have fo3 := blk_frozen M_.out 3; have fo4 := blk_frozen M_.out 4; have H9 := Aside0.mk (X_.out.1); clear hm_ hb_ hg_ X_ HB_ M_))
 generalize ((((w8.setCell ⟨g5, 0, none⟩ (.int .i64 0)).setCell ⟨g5, 1, none⟩ (.int .i64 1)).setCell ⟨g5, 2, none⟩ (.int .i64 1)).setCell ⟨g5, 3, none⟩ (.int .i64 1)).setCell ⟨g5, 4, none⟩ (.int .i64 1) = w9 at *
 clear o0 o1 o2 o3 o4 fo0 fo1 fo2 fo3 fo4 K7 B7 G7 P7 K6 B6 G6 P6
 go_upto_region 7 with (first | (go_at_call 40; with_reducible refine (Reg_k _ K9.out).mono ?_; rintro e w10 ⟨aq, cq, ay, cy, ar, cr, rfl, hQ, hR, hr1, hb⟩; have Q10 := Aside0.mk hQ; have R10 := Aside0.mk hR; have P10 := Aside0.mk (P9.out.below hb); have K10 := Aside0.mk (K9.out.below hb); have G10 := Aside0.mk (blk_below G9.out hb); have H10 := Aside0.mk (blk_below H9.out hb); have B10 := Aside0.mk (below_step B9.out hb); have HR1 := Aside0.mk hr1; clear hQ hR hb hr1) | ((with_reducible refine gate_dst (N := 7) rfl ?_); refine box_event ?hg (N := 7) ?hd (cs := #[.int .i64 0, .slice none 0 0]) (t := 47) ?hr ?_; (case hd => rfl); (case hg => rfl); (case hr => first | (go_simp; done) | (go_simp; rfl)); intro g7 hg_ w11 hm_ hb_; have X_ := Aside0.mk (put2 (x := .int .i64 0) (y := .slice (some aq) 1 cq) hm_ rfl); have HB_ := Aside0.mk ((show Below w10.heap.size w10 w11 from hb_).trans (X_.out.2.2 _ (by rw [hg_]; exact Nat.le_refl _))); have P12 := Aside0.mk (P10.out.below HB_.out); have Q12 := Aside0.mk (Q10.out.below HB_.out); have K12 := Aside0.mk (K10.out.below HB_.out); have G12 := Aside0.mk (blk_below G10.out HB_.out); have H12 := Aside0.mk (blk_below H10.out HB_.out); have B12 := Aside0.mk (below_step B10.out HB_.out); have R12 := Aside0.mk (Kd.C_below R10.out HB_.out); have M_ := Aside0.mk hm_; have o0 := (blk_cell M_.out 0).trans rfl; have o1 := (blk_cell M_.out 1).trans rfl; have fo0 := blk_frozen M_.out 0; have fo1 := blk_frozen M_.out 1; have J12 := Aside0.mk (X_.out.1); clear hm_ hb_ hg_ X_ HB_ M_))
 generalize (w11.setCell ⟨g7, 0, none⟩ (.int .i64 0)).setCell ⟨g7, 1, none⟩ (.slice (some aq) 1 cq) = w12 at *
 clear o0 o1 fo0 fo1 K10 B10 G10 P10 H10 Q10 R10 K9 B9 G9 P9 H9
 have S12 : Aside0 (KS w12 g3 g5 g7 ap az aq ay ar ad cp cz cq cy cr c) := ⟨⟨(blk_cell G12.out 1).trans rfl, (blk_cell J12.out 1).trans rfl, (blk_cell H12.out 0).trans rfl, (blk_cell H12.out 1).trans rfl, (blk_cell H12.out 2).trans rfl, (blk_cell H12.out 3).trans rfl, (blk_cell H12.out 4).trans rfl, P12.out, Q12.out, R12.out, HR1.out, K12.out⟩⟩
 clear G12 J12 H12 P12 Q12 R12 K12 HR1
 have S12 := Aside0.mk (S12.out.below (below_drew1 (Below.refl _ w12)))
 have B12 := Aside0.mk (below_drew1 B12.out)
 have w00 : IntKind.i64.wrap 0 = 0 := by simp only [IntKind.wrap_i64]; omega
 have w01 : IntKind.i64.wrap (0 + 0) = 0 := by simp only [IntKind.wrap_i64]; omega
 have hq60 : ∀ w, (Op.equalIn 10000 60 (.agg #[.int .i64 0, .int .i64 1, .int .i64 1, .int .i64 1, .int .i64 1]) (.agg #[.int .i64 0, .int .i64 1, .int .i64 1, .int .i64 1, .int .i64 1])).run Try.prog w = .ok true w := fun w => eq60 0 1 1 1 1 0 1 1 1 1 w
 refine start_ (n := 51) (S := fun w' => w'.cell? ⟨g3, 1, none⟩ = some (.slice (some ap) 1 cp) ∧ w'.cell? ⟨g7, 1, none⟩ = some (.slice (some aq) 1 cq) ∧ w'.cell? ⟨g5, 0, none⟩ = some (.int .i64 0) ∧ w'.cell? ⟨g5, 1, none⟩ = some (.int .i64 1) ∧ w'.cell? ⟨g5, 2, none⟩ = some (.int .i64 1) ∧ w'.cell? ⟨g5, 3, none⟩ = some (.int .i64 1) ∧ w'.cell? ⟨g5, 4, none⟩ = some (.int .i64 1) ∧ w'.cell? ap = some (.int .i64 1) ∧ w'.cell? ⟨ap.block, ap.off + 1, none⟩ = some (.int .i64 1) ∧ w'.cell? ⟨ap.block, ap.off + 2, none⟩ = some (.slice (some az) 1 cz) ∧ w'.cell? aq = some (.int .i64 1) ∧ w'.cell? ⟨aq.block, aq.off + 1, none⟩ = some (.int .i64 1) ∧ w'.cell? ⟨aq.block, aq.off + 2, none⟩ = some (.slice (some ay) 1 cy)) (ds := []) #[ff_,ff_,ff_,ff_,ff_,ff_,ff_,ff_,ff_,ff_,ff_,ff_,ff_,ff_,ff_,ff_,ff_,ff_,ff_,ff_,ff_,ff_,ff_,ff_,ff_,ff_,ff_,ff_,ff_,ff_,ff_,ff_,ff_,ff_,ff_,ff_,ff_,ff_,ff_,ff_,ff_,ff_,ff_,ff_,ff_,ff_,ff_,ff_,ff_,ff_,ff_] (by kernel_rfl) rfl rfl ⟨S12.out.c3, S12.out.c7, S12.out.h0, S12.out.h1, S12.out.h2, S12.out.h3, S12.out.h4, S12.out.p.a0, S12.out.p.a1, S12.out.p.a2, S12.out.q.a0, S12.out.q.a1, S12.out.q.a2⟩ (fun hHeld => ?_)
 generalize w12.drew = wd at *
 refine pure_ (i := 0) (N := some 64) (v := ?_) (a' := ?_) #[tt_,ff_,ff_,ff_,ff_,ff_,ff_,ff_,ff_,ff_,ff_,ff_,ff_,ff_,ff_,ff_,ff_,ff_,ff_,ff_,ff_,ff_,ff_,ff_,ff_,ff_,ff_,ff_,ff_,ff_,ff_,ff_,ff_,ff_,ff_,ff_,ff_,ff_,ff_,ff_,ff_,ff_,ff_,ff_,ff_,ff_,ff_,ff_,ff_,ff_,ff_] rfl rfl (by kernel_rfl) (fun _ _ _ h => h) (Or.inl ⟨by rfl, ?_⟩) ?_ ?_
 rotate_left
 ·intro w'
  go_simp
  with_reducible rfl
 rotate_left
 ·simp only [Act.put, List.setIfInBounds_toArray, List.set_cons_zero, List.set_cons_succ, i64_w, i32_w]
  rfl
 refine pure_ (i := 1) (N := some 65) (v := ?_) (a' := ?_) #[tt_,tt_,ff_,ff_,ff_,ff_,ff_,ff_,ff_,ff_,ff_,ff_,ff_,ff_,ff_,ff_,ff_,ff_,ff_,ff_,ff_,ff_,ff_,ff_,ff_,ff_,ff_,ff_,ff_,ff_,ff_,ff_,ff_,ff_,ff_,ff_,ff_,ff_,ff_,ff_,ff_,ff_,ff_,ff_,ff_,ff_,ff_,ff_,ff_,ff_,ff_] rfl rfl (by kernel_rfl) (fun _ _ _ h => h) (Or.inl ⟨by rfl, ?_⟩) ?_ ?_
 rotate_left
 ·intro w'
  go_simp
  with_reducible rfl
 rotate_left
 ·simp only [Act.put, List.setIfInBounds_toArray, List.set_cons_zero, List.set_cons_succ, i64_w, i32_w]
  rfl
 refine pure_ (i := 2) (N := some 66) (v := ?_) (a' := ?_) #[tt_,tt_,tt_,ff_,ff_,ff_,ff_,ff_,ff_,ff_,ff_,ff_,ff_,ff_,ff_,ff_,ff_,ff_,ff_,ff_,ff_,ff_,ff_,ff_,ff_,ff_,ff_,ff_,ff_,ff_,ff_,ff_,ff_,ff_,ff_,ff_,ff_,ff_,ff_,ff_,ff_,ff_,ff_,ff_,ff_,ff_,ff_,ff_,ff_,ff_,ff_] rfl rfl (by kernel_rfl) (fun _ _ _ h => h) (Or.inl ⟨by rfl, ?_⟩) ?_ ?_
 rotate_left
 ·intro w'
  go_simp
  with_reducible rfl
 rotate_left
 ·simp only [Act.put, List.setIfInBounds_toArray, List.set_cons_zero, List.set_cons_succ, i64_w, i32_w]
  rfl
 refine pure_ (i := 3) (N := some 67) (v := ?_) (a' := ?_) #[tt_,tt_,tt_,tt_,ff_,ff_,ff_,ff_,ff_,ff_,ff_,ff_,ff_,ff_,ff_,ff_,ff_,ff_,ff_,ff_,ff_,ff_,ff_,ff_,ff_,ff_,ff_,ff_,ff_,ff_,ff_,ff_,ff_,ff_,ff_,ff_,ff_,ff_,ff_,ff_,ff_,ff_,ff_,ff_,ff_,ff_,ff_,ff_,ff_,ff_,ff_] rfl rfl (by kernel_rfl) (fun _ _ _ h => h) (Or.inl ⟨by rfl, ?_⟩) ?_ ?_
 rotate_left
 ·intro w'
  go_simp
  with_reducible rfl
 rotate_left
 ·simp only [Act.put, List.setIfInBounds_toArray, List.set_cons_zero, List.set_cons_succ, i64_w, i32_w]
  rfl
 refine pure_ (i := 4) (N := some 68) (v := ?_) (a' := ?_) #[tt_,tt_,tt_,tt_,tt_,ff_,ff_,ff_,ff_,ff_,ff_,ff_,ff_,ff_,ff_,ff_,ff_,ff_,ff_,ff_,ff_,ff_,ff_,ff_,ff_,ff_,ff_,ff_,ff_,ff_,ff_,ff_,ff_,ff_,ff_,ff_,ff_,ff_,ff_,ff_,ff_,ff_,ff_,ff_,ff_,ff_,ff_,ff_,ff_,ff_,ff_] rfl rfl (by kernel_rfl) (fun _ _ _ h => h) (Or.inl ⟨by rfl, ?_⟩) ?_ ?_
 rotate_left
 ·intro w'
  go_simp
  with_reducible rfl
 rotate_left
 ·simp only [Act.put, List.setIfInBounds_toArray, List.set_cons_zero, List.set_cons_succ, i64_w, i32_w]
  rfl
 refine pure_ (i := 5) (N := some 69) (v := ?_) (a' := ?_) #[tt_,tt_,tt_,tt_,tt_,tt_,ff_,ff_,ff_,ff_,ff_,ff_,ff_,ff_,ff_,ff_,ff_,ff_,ff_,ff_,ff_,ff_,ff_,ff_,ff_,ff_,ff_,ff_,ff_,ff_,ff_,ff_,ff_,ff_,ff_,ff_,ff_,ff_,ff_,ff_,ff_,ff_,ff_,ff_,ff_,ff_,ff_,ff_,ff_,ff_,ff_] rfl rfl (by kernel_rfl) (fun _ _ _ h => h) (Or.inl ⟨by rfl, ?_⟩) ?_ ?_
 rotate_left
 ·intro w'
  go_simp
  with_reducible rfl
 rotate_left
 ·simp only [Act.put, List.setIfInBounds_toArray, List.set_cons_zero, List.set_cons_succ, i64_w, i32_w]
  rfl
 refine pure_ (i := 6) (N := some 70) (v := ?_) (a' := ?_) #[tt_,tt_,tt_,tt_,tt_,tt_,tt_,ff_,ff_,ff_,ff_,ff_,ff_,ff_,ff_,ff_,ff_,ff_,ff_,ff_,ff_,ff_,ff_,ff_,ff_,ff_,ff_,ff_,ff_,ff_,ff_,ff_,ff_,ff_,ff_,ff_,ff_,ff_,ff_,ff_,ff_,ff_,ff_,ff_,ff_,ff_,ff_,ff_,ff_,ff_,ff_] rfl rfl (by kernel_rfl) (fun _ _ _ h => h) (Or.inl ⟨by rfl, ?_⟩) ?_ ?_
 rotate_left
 ·intro w'
  go_simp
  with_reducible rfl
 rotate_left
 ·simp only [Act.put, List.setIfInBounds_toArray, List.set_cons_zero, List.set_cons_succ, i64_w, i32_w]
  rfl
 refine pure_ (i := 7) (N := some 71) (v := ?_) (a' := ?_) #[tt_,tt_,tt_,tt_,tt_,tt_,tt_,tt_,ff_,ff_,ff_,ff_,ff_,ff_,ff_,ff_,ff_,ff_,ff_,ff_,ff_,ff_,ff_,ff_,ff_,ff_,ff_,ff_,ff_,ff_,ff_,ff_,ff_,ff_,ff_,ff_,ff_,ff_,ff_,ff_,ff_,ff_,ff_,ff_,ff_,ff_,ff_,ff_,ff_,ff_,ff_] rfl rfl (by kernel_rfl) (fun _ _ _ h => h) (Or.inl ⟨by rfl, ?_⟩) ?_ ?_
 rotate_left
 ·intro w'
  go_simp
  with_reducible rfl
 rotate_left
 ·simp only [Act.put, List.setIfInBounds_toArray, List.set_cons_zero, List.set_cons_succ, i64_w, i32_w]
  rfl
 refine take_ (i := 8) (N := some 72) (v := ?_) (a' := ?_) #[tt_,tt_,tt_,tt_,tt_,tt_,tt_,tt_,tt_,ff_,ff_,ff_,ff_,ff_,ff_,ff_,ff_,ff_,ff_,ff_,ff_,ff_,ff_,ff_,ff_,ff_,ff_,ff_,ff_,ff_,ff_,ff_,ff_,ff_,ff_,ff_,ff_,ff_,ff_,ff_,ff_,ff_,ff_,ff_,ff_,ff_,ff_,ff_,ff_,ff_,ff_] rfl rfl (by kernel_rfl) (fun _ _ _ h => h) (Or.inl ⟨by rfl, ?_⟩) hHeld ?_ ?_
 rotate_left
 ·rintro w' ⟨s0, s1, s2, s3, s4, s5, s6, s7, s8, s9, s10, s11, s12⟩
  go_simp
  with_reducible rfl
 rotate_left
 ·simp only [Act.put, List.setIfInBounds_toArray, List.set_cons_zero, List.set_cons_succ, i64_w, i32_w]
  rfl
 refine pure_ (i := 9) (N := some 73) (v := ?_) (a' := ?_) #[tt_,tt_,tt_,tt_,tt_,tt_,tt_,tt_,tt_,tt_,ff_,ff_,ff_,ff_,ff_,ff_,ff_,ff_,ff_,ff_,ff_,ff_,ff_,ff_,ff_,ff_,ff_,ff_,ff_,ff_,ff_,ff_,ff_,ff_,ff_,ff_,ff_,ff_,ff_,ff_,ff_,ff_,ff_,ff_,ff_,ff_,ff_,ff_,ff_,ff_,ff_] rfl rfl (by kernel_rfl) (fun _ _ _ h => h) (Or.inl ⟨by rfl, ?_⟩) ?_ ?_
 rotate_left
 ·intro w'
  go_simp
  with_reducible rfl
 rotate_left
 ·simp only [Act.put, List.setIfInBounds_toArray, List.set_cons_zero, List.set_cons_succ, i64_w, i32_w]
  rfl
 refine pure_ (i := 10) (N := some 74) (v := ?_) (a' := ?_) #[tt_,tt_,tt_,tt_,tt_,tt_,tt_,tt_,tt_,tt_,tt_,ff_,ff_,ff_,ff_,ff_,ff_,ff_,ff_,ff_,ff_,ff_,ff_,ff_,ff_,ff_,ff_,ff_,ff_,ff_,ff_,ff_,ff_,ff_,ff_,ff_,ff_,ff_,ff_,ff_,ff_,ff_,ff_,ff_,ff_,ff_,ff_,ff_,ff_,ff_,ff_] rfl rfl (by kernel_rfl) (fun _ _ _ h => h) (Or.inl ⟨by rfl, ?_⟩) ?_ ?_
 rotate_left
 ·intro w'
  go_simp
  with_reducible rfl
 rotate_left
 ·simp only [Act.put, List.setIfInBounds_toArray, List.set_cons_zero, List.set_cons_succ, i64_w, i32_w]
  rfl
 refine pure_ (i := 11) (N := some 75) (v := ?_) (a' := ?_) #[tt_,tt_,tt_,tt_,tt_,tt_,tt_,tt_,tt_,tt_,tt_,tt_,ff_,ff_,ff_,ff_,ff_,ff_,ff_,ff_,ff_,ff_,ff_,ff_,ff_,ff_,ff_,ff_,ff_,ff_,ff_,ff_,ff_,ff_,ff_,ff_,ff_,ff_,ff_,ff_,ff_,ff_,ff_,ff_,ff_,ff_,ff_,ff_,ff_,ff_,ff_] rfl rfl (by kernel_rfl) (fun _ _ _ h => h) (Or.inl ⟨by rfl, ?_⟩) ?_ ?_
 rotate_left
 ·intro w'
  go_simp
  with_reducible rfl
 rotate_left
 ·simp only [Act.put, List.setIfInBounds_toArray, List.set_cons_zero, List.set_cons_succ, i64_w, i32_w]
  rfl
 refine pure_ (i := 12) (N := some 76) (v := ?_) (a' := ?_) #[tt_,tt_,tt_,tt_,tt_,tt_,tt_,tt_,tt_,tt_,tt_,tt_,tt_,ff_,ff_,ff_,ff_,ff_,ff_,ff_,ff_,ff_,ff_,ff_,ff_,ff_,ff_,ff_,ff_,ff_,ff_,ff_,ff_,ff_,ff_,ff_,ff_,ff_,ff_,ff_,ff_,ff_,ff_,ff_,ff_,ff_,ff_,ff_,ff_,ff_,ff_] rfl rfl (by kernel_rfl) (fun _ _ _ h => h) (Or.inl ⟨by rfl, ?_⟩) ?_ ?_
 rotate_left
 ·intro w'
  go_simp
  with_reducible rfl
 rotate_left
 ·simp only [Act.put, List.setIfInBounds_toArray, List.set_cons_zero, List.set_cons_succ, i64_w, i32_w]
  rfl
 refine pure_ (i := 13) (N := some 77) (v := ?_) (a' := ?_) #[tt_,tt_,tt_,tt_,tt_,tt_,tt_,tt_,tt_,tt_,tt_,tt_,tt_,tt_,ff_,ff_,ff_,ff_,ff_,ff_,ff_,ff_,ff_,ff_,ff_,ff_,ff_,ff_,ff_,ff_,ff_,ff_,ff_,ff_,ff_,ff_,ff_,ff_,ff_,ff_,ff_,ff_,ff_,ff_,ff_,ff_,ff_,ff_,ff_,ff_,ff_] rfl rfl (by kernel_rfl) (fun _ _ _ h => h) (Or.inl ⟨by rfl, ?_⟩) ?_ ?_
 rotate_left
 ·intro w'
  go_simp
  with_reducible rfl
 rotate_left
 ·simp only [Act.put, List.setIfInBounds_toArray, List.set_cons_zero, List.set_cons_succ, i64_w, i32_w]
  rfl
 refine take_ (i := 14) (N := some 78) (v := ?_) (a' := ?_) #[tt_,tt_,tt_,tt_,tt_,tt_,tt_,tt_,tt_,tt_,tt_,tt_,tt_,tt_,tt_,ff_,ff_,ff_,ff_,ff_,ff_,ff_,ff_,ff_,ff_,ff_,ff_,ff_,ff_,ff_,ff_,ff_,ff_,ff_,ff_,ff_,ff_,ff_,ff_,ff_,ff_,ff_,ff_,ff_,ff_,ff_,ff_,ff_,ff_,ff_,ff_] rfl rfl (by kernel_rfl) (fun _ _ _ h => h) (Or.inl ⟨by rfl, ?_⟩) hHeld ?_ ?_
 rotate_left
 ·rintro w' ⟨s0, s1, s2, s3, s4, s5, s6, s7, s8, s9, s10, s11, s12⟩
  go_simp
  with_reducible rfl
 rotate_left
 ·simp only [Act.put, List.setIfInBounds_toArray, List.set_cons_zero, List.set_cons_succ, i64_w, i32_w]
  rfl
 refine pure_ (i := 15) (N := some 79) (v := ?_) (a' := ?_) #[tt_,tt_,tt_,tt_,tt_,tt_,tt_,tt_,tt_,tt_,tt_,tt_,tt_,tt_,tt_,tt_,ff_,ff_,ff_,ff_,ff_,ff_,ff_,ff_,ff_,ff_,ff_,ff_,ff_,ff_,ff_,ff_,ff_,ff_,ff_,ff_,ff_,ff_,ff_,ff_,ff_,ff_,ff_,ff_,ff_,ff_,ff_,ff_,ff_,ff_,ff_] rfl rfl (by kernel_rfl) (fun _ _ _ h => h) (Or.inl ⟨by rfl, ?_⟩) ?_ ?_
 rotate_left
 ·intro w'
  go_simp
  with_reducible rfl
 rotate_left
 ·simp only [Act.put, List.setIfInBounds_toArray, List.set_cons_zero, List.set_cons_succ, i64_w, i32_w]
  rfl
 refine pure_ (i := 16) (N := some 80) (v := ?_) (a' := ?_) #[tt_,tt_,tt_,tt_,tt_,tt_,tt_,tt_,tt_,tt_,tt_,tt_,tt_,tt_,tt_,tt_,tt_,ff_,ff_,ff_,ff_,ff_,ff_,ff_,ff_,ff_,ff_,ff_,ff_,ff_,ff_,ff_,ff_,ff_,ff_,ff_,ff_,ff_,ff_,ff_,ff_,ff_,ff_,ff_,ff_,ff_,ff_,ff_,ff_,ff_,ff_] rfl rfl (by kernel_rfl) (fun _ _ _ h => h) (Or.inl ⟨by rfl, ?_⟩) ?_ ?_
 rotate_left
 ·intro w'
  go_simp
  with_reducible rfl
 rotate_left
 ·simp only [Act.put, List.setIfInBounds_toArray, List.set_cons_zero, List.set_cons_succ, i64_w, i32_w]
  rfl
 refine pure_ (i := 17) (N := some 81) (v := ?_) (a' := ?_) #[tt_,tt_,tt_,tt_,tt_,tt_,tt_,tt_,tt_,tt_,tt_,tt_,tt_,tt_,tt_,tt_,tt_,tt_,ff_,ff_,ff_,ff_,ff_,ff_,ff_,ff_,ff_,ff_,ff_,ff_,ff_,ff_,ff_,ff_,ff_,ff_,ff_,ff_,ff_,ff_,ff_,ff_,ff_,ff_,ff_,ff_,ff_,ff_,ff_,ff_,ff_] rfl rfl (by kernel_rfl) (fun _ _ _ h => h) (Or.inl ⟨by rfl, ?_⟩) ?_ ?_
 rotate_left
 ·intro w'
  go_simp
  with_reducible rfl
 rotate_left
 ·simp only [Act.put, List.setIfInBounds_toArray, List.set_cons_zero, List.set_cons_succ, i64_w, i32_w]
  rfl
 refine pure_ (i := 18) (N := some 82) (v := ?_) (a' := ?_) #[tt_,tt_,tt_,tt_,tt_,tt_,tt_,tt_,tt_,tt_,tt_,tt_,tt_,tt_,tt_,tt_,tt_,tt_,tt_,ff_,ff_,ff_,ff_,ff_,ff_,ff_,ff_,ff_,ff_,ff_,ff_,ff_,ff_,ff_,ff_,ff_,ff_,ff_,ff_,ff_,ff_,ff_,ff_,ff_,ff_,ff_,ff_,ff_,ff_,ff_,ff_] rfl rfl (by kernel_rfl) (fun _ _ _ h => h) (Or.inl ⟨by rfl, ?_⟩) ?_ ?_
 rotate_left
 ·intro w'
  go_simp
  with_reducible rfl
 rotate_left
 ·simp only [Act.put, List.setIfInBounds_toArray, List.set_cons_zero, List.set_cons_succ, i64_w, i32_w]
  rfl
 refine pure_ (i := 19) (N := some 83) (v := ?_) (a' := ?_) #[tt_,tt_,tt_,tt_,tt_,tt_,tt_,tt_,tt_,tt_,tt_,tt_,tt_,tt_,tt_,tt_,tt_,tt_,tt_,tt_,ff_,ff_,ff_,ff_,ff_,ff_,ff_,ff_,ff_,ff_,ff_,ff_,ff_,ff_,ff_,ff_,ff_,ff_,ff_,ff_,ff_,ff_,ff_,ff_,ff_,ff_,ff_,ff_,ff_,ff_,ff_] rfl rfl (by kernel_rfl) (fun _ _ _ h => h) (Or.inl ⟨by rfl, ?_⟩) ?_ ?_
 rotate_left
 ·intro w'
  go_simp
  with_reducible rfl
 rotate_left
 ·simp only [Act.put, List.setIfInBounds_toArray, List.set_cons_zero, List.set_cons_succ, i64_w, i32_w]
  rfl
 refine take_ (i := 20) (N := some 84) (v := ?_) (a' := ?_) #[tt_,tt_,tt_,tt_,tt_,tt_,tt_,tt_,tt_,tt_,tt_,tt_,tt_,tt_,tt_,tt_,tt_,tt_,tt_,tt_,tt_,ff_,ff_,ff_,ff_,ff_,ff_,ff_,ff_,ff_,ff_,ff_,ff_,ff_,ff_,ff_,ff_,ff_,ff_,ff_,ff_,ff_,ff_,ff_,ff_,ff_,ff_,ff_,ff_,ff_,ff_] rfl rfl (by kernel_rfl) (fun _ _ _ h => h) (Or.inl ⟨by rfl, ?_⟩) hHeld ?_ ?_
 rotate_left
 ·rintro w' ⟨s0, s1, s2, s3, s4, s5, s6, s7, s8, s9, s10, s11, s12⟩
  go_simp
  with_reducible rfl
 rotate_left
 ·simp only [Act.put, List.setIfInBounds_toArray, List.set_cons_zero, List.set_cons_succ, i64_w, i32_w]
  rfl
 refine pure_ (i := 21) (N := some 85) (v := ?_) (a' := ?_) #[tt_,tt_,tt_,tt_,tt_,tt_,tt_,tt_,tt_,tt_,tt_,tt_,tt_,tt_,tt_,tt_,tt_,tt_,tt_,tt_,tt_,tt_,ff_,ff_,ff_,ff_,ff_,ff_,ff_,ff_,ff_,ff_,ff_,ff_,ff_,ff_,ff_,ff_,ff_,ff_,ff_,ff_,ff_,ff_,ff_,ff_,ff_,ff_,ff_,ff_,ff_] rfl rfl (by kernel_rfl) (fun _ _ _ h => h) (Or.inl ⟨by rfl, ?_⟩) ?_ ?_
 rotate_left
 ·intro w'
  go_simp
  with_reducible rfl
 rotate_left
 ·simp only [Act.put, List.setIfInBounds_toArray, List.set_cons_zero, List.set_cons_succ, i64_w, i32_w]
  rfl
 refine pure_ (i := 22) (N := some 86) (v := ?_) (a' := ?_) #[tt_,tt_,tt_,tt_,tt_,tt_,tt_,tt_,tt_,tt_,tt_,tt_,tt_,tt_,tt_,tt_,tt_,tt_,tt_,tt_,tt_,tt_,tt_,ff_,ff_,ff_,ff_,ff_,ff_,ff_,ff_,ff_,ff_,ff_,ff_,ff_,ff_,ff_,ff_,ff_,ff_,ff_,ff_,ff_,ff_,ff_,ff_,ff_,ff_,ff_,ff_] rfl rfl (by kernel_rfl) (fun _ _ _ h => h) (Or.inl ⟨by rfl, ?_⟩) ?_ ?_
 rotate_left
 ·intro w'
  go_simp
  with_reducible rfl
 rotate_left
 ·simp only [Act.put, List.setIfInBounds_toArray, List.set_cons_zero, List.set_cons_succ, i64_w, i32_w]
  rfl
 refine take_ (i := 23) (N := some 87) (v := ?_) (a' := ?_) #[tt_,tt_,tt_,tt_,tt_,tt_,tt_,tt_,tt_,tt_,tt_,tt_,tt_,tt_,tt_,tt_,tt_,tt_,tt_,tt_,tt_,tt_,tt_,tt_,ff_,ff_,ff_,ff_,ff_,ff_,ff_,ff_,ff_,ff_,ff_,ff_,ff_,ff_,ff_,ff_,ff_,ff_,ff_,ff_,ff_,ff_,ff_,ff_,ff_,ff_,ff_] rfl rfl (by kernel_rfl) (fun _ _ _ h => h) (Or.inl ⟨by rfl, ?_⟩) hHeld ?_ ?_
 rotate_left
 ·rintro w' ⟨s0, s1, s2, s3, s4, s5, s6, s7, s8, s9, s10, s11, s12⟩
  go_simp
  with_reducible rfl
 rotate_left
 ·simp only [Act.put, List.setIfInBounds_toArray, List.set_cons_zero, List.set_cons_succ, i64_w, i32_w]
  rfl
 refine one_ (i := 24) (N := some 88) #[tt_,tt_,tt_,tt_,tt_,tt_,tt_,tt_,tt_,tt_,tt_,tt_,tt_,tt_,tt_,tt_,tt_,tt_,tt_,tt_,tt_,tt_,tt_,tt_,tt_,ff_,ff_,ff_,ff_,ff_,ff_,ff_,ff_,ff_,ff_,ff_,ff_,ff_,ff_,ff_,ff_,ff_,ff_,ff_,ff_,ff_,ff_,ff_,ff_,ff_,ff_] rfl rfl (by kernel_rfl) (by decide) (fun K hK => ?_)
 refine value_ (w1 := ?_) (v := ?_) (by rfl) rfl ?_ ?_
 rotate_left 2
 ·go_simp
  constructor
  ·rfl
  ·rfl
 have S13 := Aside0.mk (S12.out.below (below1 wd (.cells #[.int .u32 0] 24 (0, 0))))
 have B13 := Aside0.mk (below_step B12.out (below1 wd (.cells #[.int .u32 0] 24 (0, 0))))
 refine hK.out _ _ ⟨S13.out.c3, S13.out.c7, S13.out.h0, S13.out.h1, S13.out.h2, S13.out.h3, S13.out.h4, S13.out.p.a0, S13.out.p.a1, S13.out.p.a2, S13.out.q.a0, S13.out.q.a1, S13.out.q.a2⟩ (fun hHeld => ?_)
 clear hK K
 refine norm_ (a' := ?_) ?_ ?_
 rotate_left
 ·show Act.put _ (some 88) _ = _
  simp only [Act.put, List.setIfInBounds_toArray, List.set_cons_zero, List.set_cons_succ, i64_w, i32_w]
  rfl
 refine one_ (i := 25) (N := some 89) #[tt_,tt_,tt_,tt_,tt_,tt_,tt_,tt_,tt_,tt_,tt_,tt_,tt_,tt_,tt_,tt_,tt_,tt_,tt_,tt_,tt_,tt_,tt_,tt_,tt_,tt_,ff_,ff_,ff_,ff_,ff_,ff_,ff_,ff_,ff_,ff_,ff_,ff_,ff_,ff_,ff_,ff_,ff_,ff_,ff_,ff_,ff_,ff_,ff_,ff_,ff_] rfl rfl (by kernel_rfl) (by decide) (fun K hK => ?_)
 refine goes_ Try.func26 (by kernel_rfl) rfl #[.slice (some az) 1 cz, .slice (some ⟨wd.heap.size, 0, none⟩) 1 1] (by rfl) rfl rfl (by (try simp only [List.map_toArray, List.map_cons, List.map_nil]); rfl) ?_
 with_reducible refine (words_k1 _ S13.out.p.z S13.out.p.cz1 (blk_new wd _)).mono ?_
 rintro e w14 ⟨rfl, hb⟩
 refine ⟨_, rfl, ?_⟩
 have S14 := Aside0.mk (S13.out.below hb)
 have B14 := Aside0.mk (below_step B13.out hb)
 clear hb
 refine hK.out _ _ ⟨S14.out.c3, S14.out.c7, S14.out.h0, S14.out.h1, S14.out.h2, S14.out.h3, S14.out.h4, S14.out.p.a0, S14.out.p.a1, S14.out.p.a2, S14.out.q.a0, S14.out.q.a1, S14.out.q.a2⟩ (fun hHeld => ?_)
 clear hK K
 refine norm_ (a' := ?_) ?_ ?_
 rotate_left
 ·show Act.put _ (some 89) _ = _
  simp only [Act.put, List.setIfInBounds_toArray, List.set_cons_zero, List.set_cons_succ, i64_w, i32_w]
  rfl
 refine pure_ (i := 26) (N := some 90) (v := ?_) (a' := ?_) #[tt_,tt_,tt_,tt_,tt_,tt_,tt_,tt_,tt_,tt_,tt_,tt_,tt_,tt_,tt_,tt_,tt_,tt_,tt_,tt_,tt_,tt_,tt_,tt_,tt_,tt_,tt_,ff_,ff_,ff_,ff_,ff_,ff_,ff_,ff_,ff_,ff_,ff_,ff_,ff_,ff_,ff_,ff_,ff_,ff_,ff_,ff_,ff_,ff_,ff_,ff_] rfl rfl (by kernel_rfl) (fun _ _ _ h => h) (Or.inl ⟨by rfl, ?_⟩) ?_ ?_
 rotate_left
 ·intro w'
  go_simp
  with_reducible rfl
 rotate_left
 ·simp only [Act.put, List.setIfInBounds_toArray, List.set_cons_zero, List.set_cons_succ, i64_w, i32_w]
  rfl
 refine pure_ (i := 27) (N := some 91) (v := ?_) (a' := ?_) #[tt_,tt_,tt_,tt_,tt_,tt_,tt_,tt_,tt_,tt_,tt_,tt_,tt_,tt_,tt_,tt_,tt_,tt_,tt_,tt_,tt_,tt_,tt_,tt_,tt_,tt_,tt_,tt_,ff_,ff_,ff_,ff_,ff_,ff_,ff_,ff_,ff_,ff_,ff_,ff_,ff_,ff_,ff_,ff_,ff_,ff_,ff_,ff_,ff_,ff_,ff_] rfl rfl (by kernel_rfl) (fun _ _ _ h => h) (Or.inl ⟨by rfl, ?_⟩) ?_ ?_
 rotate_left
 ·intro w'
  go_simp
  with_reducible rfl
 rotate_left
 ·simp only [Act.put, List.setIfInBounds_toArray, List.set_cons_zero, List.set_cons_succ, i64_w, i32_w]
  rfl
 refine pure_ (i := 28) (N := some 92) (v := ?_) (a' := ?_) #[tt_,tt_,tt_,tt_,tt_,tt_,tt_,tt_,tt_,tt_,tt_,tt_,tt_,tt_,tt_,tt_,tt_,tt_,tt_,tt_,tt_,tt_,tt_,tt_,tt_,tt_,tt_,tt_,tt_,ff_,ff_,ff_,ff_,ff_,ff_,ff_,ff_,ff_,ff_,ff_,ff_,ff_,ff_,ff_,ff_,ff_,ff_,ff_,ff_,ff_,ff_] rfl rfl (by kernel_rfl) (fun _ _ _ h => h) (Or.inl ⟨by rfl, ?_⟩) ?_ ?_
 rotate_left
 ·intro w'
  go_simp
  with_reducible rfl
 rotate_left
 ·simp only [Act.put, List.setIfInBounds_toArray, List.set_cons_zero, List.set_cons_succ, i64_w, i32_w]
  rfl
 refine pure_ (i := 29) (N := some 93) (v := ?_) (a' := ?_) #[tt_,tt_,tt_,tt_,tt_,tt_,tt_,tt_,tt_,tt_,tt_,tt_,tt_,tt_,tt_,tt_,tt_,tt_,tt_,tt_,tt_,tt_,tt_,tt_,tt_,tt_,tt_,tt_,tt_,tt_,ff_,ff_,ff_,ff_,ff_,ff_,ff_,ff_,ff_,ff_,ff_,ff_,ff_,ff_,ff_,ff_,ff_,ff_,ff_,ff_,ff_] rfl rfl (by kernel_rfl) (fun _ _ _ h => h) (Or.inl ⟨by rfl, ?_⟩) ?_ ?_
 rotate_left
 ·intro w'
  go_simp
  with_reducible rfl
 rotate_left
 ·simp only [Act.put, List.setIfInBounds_toArray, List.set_cons_zero, List.set_cons_succ, i64_w, i32_w]
  rfl
 refine pure_ (i := 33) (N := some 97) (v := ?_) (a' := ?_) #[tt_,tt_,tt_,tt_,tt_,tt_,tt_,tt_,tt_,tt_,tt_,tt_,tt_,tt_,tt_,tt_,tt_,tt_,tt_,tt_,tt_,tt_,tt_,tt_,tt_,tt_,tt_,tt_,tt_,tt_,ff_,ff_,ff_,tt_,ff_,ff_,ff_,ff_,ff_,ff_,ff_,ff_,ff_,ff_,ff_,ff_,ff_,ff_,ff_,ff_,ff_] rfl rfl (by kernel_rfl) (fun _ _ _ h => h) (Or.inl ⟨by rfl, ?_⟩) ?_ ?_
 rotate_left
 ·intro w'
  go_simp
  with_reducible rfl
 rotate_left
 ·simp only [Act.put, List.setIfInBounds_toArray, List.set_cons_zero, List.set_cons_succ, i64_w, i32_w]
  rfl
 refine take_ (i := 30) (N := some 94) (v := ?_) (a' := ?_) #[tt_,tt_,tt_,tt_,tt_,tt_,tt_,tt_,tt_,tt_,tt_,tt_,tt_,tt_,tt_,tt_,tt_,tt_,tt_,tt_,tt_,tt_,tt_,tt_,tt_,tt_,tt_,tt_,tt_,tt_,tt_,ff_,ff_,tt_,ff_,ff_,ff_,ff_,ff_,ff_,ff_,ff_,ff_,ff_,ff_,ff_,ff_,ff_,ff_,ff_,ff_] rfl rfl (by kernel_rfl) (fun _ _ _ h => h) (Or.inl ⟨by rfl, ?_⟩) hHeld ?_ ?_
 rotate_left
 ·rintro w' ⟨s0, s1, s2, s3, s4, s5, s6, s7, s8, s9, s10, s11, s12⟩
  go_simp
  with_reducible rfl
 rotate_left
 ·simp only [Act.put, List.setIfInBounds_toArray, List.set_cons_zero, List.set_cons_succ, i64_w, i32_w]
  rfl
 refine pure_ (i := 31) (N := some 95) (v := ?_) (a' := ?_) #[tt_,tt_,tt_,tt_,tt_,tt_,tt_,tt_,tt_,tt_,tt_,tt_,tt_,tt_,tt_,tt_,tt_,tt_,tt_,tt_,tt_,tt_,tt_,tt_,tt_,tt_,tt_,tt_,tt_,tt_,tt_,tt_,ff_,tt_,ff_,ff_,ff_,ff_,ff_,ff_,ff_,ff_,ff_,ff_,ff_,ff_,ff_,ff_,ff_,ff_,ff_] rfl rfl (by kernel_rfl) (fun _ _ _ h => h) (Or.inl ⟨by rfl, ?_⟩) ?_ ?_
 rotate_left
 ·intro w'
  go_simp
  with_reducible rfl
 rotate_left
 ·simp only [Act.put, List.setIfInBounds_toArray, List.set_cons_zero, List.set_cons_succ, i64_w, i32_w]
  rfl
 refine take_ (i := 32) (N := some 96) (v := ?_) (a' := ?_) #[tt_,tt_,tt_,tt_,tt_,tt_,tt_,tt_,tt_,tt_,tt_,tt_,tt_,tt_,tt_,tt_,tt_,tt_,tt_,tt_,tt_,tt_,tt_,tt_,tt_,tt_,tt_,tt_,tt_,tt_,tt_,tt_,tt_,tt_,ff_,ff_,ff_,ff_,ff_,ff_,ff_,ff_,ff_,ff_,ff_,ff_,ff_,ff_,ff_,ff_,ff_] rfl rfl (by kernel_rfl) (fun _ _ _ h => h) (Or.inl ⟨by rfl, ?_⟩) hHeld ?_ ?_
 rotate_left
 ·rintro w' ⟨s0, s1, s2, s3, s4, s5, s6, s7, s8, s9, s10, s11, s12⟩
  go_simp
  with_reducible rfl
 rotate_left
 ·simp only [Act.put, List.setIfInBounds_toArray, List.set_cons_zero, List.set_cons_succ, i64_w, i32_w]
  rfl
 refine take_ (i := 34) (N := some 98) (v := ?_) (a' := ?_) #[tt_,tt_,tt_,tt_,tt_,tt_,tt_,tt_,tt_,tt_,tt_,tt_,tt_,tt_,tt_,tt_,tt_,tt_,tt_,tt_,tt_,tt_,tt_,tt_,tt_,tt_,tt_,tt_,tt_,tt_,tt_,tt_,tt_,tt_,tt_,ff_,ff_,ff_,ff_,ff_,ff_,ff_,ff_,ff_,ff_,ff_,ff_,ff_,ff_,ff_,ff_] rfl rfl (by kernel_rfl) (fun _ _ _ h => h) (Or.inl ⟨by rfl, ?_⟩) hHeld ?_ ?_
 rotate_left
 ·rintro w' ⟨s0, s1, s2, s3, s4, s5, s6, s7, s8, s9, s10, s11, s12⟩
  go_simp
  with_reducible rfl
 rotate_left
 ·simp only [Act.put, List.setIfInBounds_toArray, List.set_cons_zero, List.set_cons_succ, i64_w, i32_w]
  rfl
 refine pure_ (i := 35) (N := some 99) (v := ?_) (a' := ?_) #[tt_,tt_,tt_,tt_,tt_,tt_,tt_,tt_,tt_,tt_,tt_,tt_,tt_,tt_,tt_,tt_,tt_,tt_,tt_,tt_,tt_,tt_,tt_,tt_,tt_,tt_,tt_,tt_,tt_,tt_,tt_,tt_,tt_,tt_,tt_,tt_,ff_,ff_,ff_,ff_,ff_,ff_,ff_,ff_,ff_,ff_,ff_,ff_,ff_,ff_,ff_] rfl rfl (by kernel_rfl) (fun _ _ _ h => h) (Or.inl ⟨by rfl, ?_⟩) ?_ ?_
 rotate_left
 ·intro w'
  go_simp
  with_reducible rfl
 rotate_left
 ·simp only [Act.put, List.setIfInBounds_toArray, List.set_cons_zero, List.set_cons_succ, i64_w, i32_w]
  rfl
 refine take_ (i := 36) (N := some 100) (v := ?_) (a' := ?_) #[tt_,tt_,tt_,tt_,tt_,tt_,tt_,tt_,tt_,tt_,tt_,tt_,tt_,tt_,tt_,tt_,tt_,tt_,tt_,tt_,tt_,tt_,tt_,tt_,tt_,tt_,tt_,tt_,tt_,tt_,tt_,tt_,tt_,tt_,tt_,tt_,tt_,ff_,ff_,ff_,ff_,ff_,ff_,ff_,ff_,ff_,ff_,ff_,ff_,ff_,ff_] rfl rfl (by kernel_rfl) (fun _ _ _ h => h) (Or.inl ⟨by rfl, ?_⟩) hHeld ?_ ?_
 rotate_left
 ·rintro w' ⟨s0, s1, s2, s3, s4, s5, s6, s7, s8, s9, s10, s11, s12⟩
  go_simp
  with_reducible rfl
 rotate_left
 ·simp only [Act.put, List.setIfInBounds_toArray, List.set_cons_zero, List.set_cons_succ, i64_w, i32_w]
  rfl
 refine one_ (i := 37) (N := some 101) #[tt_,tt_,tt_,tt_,tt_,tt_,tt_,tt_,tt_,tt_,tt_,tt_,tt_,tt_,tt_,tt_,tt_,tt_,tt_,tt_,tt_,tt_,tt_,tt_,tt_,tt_,tt_,tt_,tt_,tt_,tt_,tt_,tt_,tt_,tt_,tt_,tt_,tt_,ff_,ff_,ff_,ff_,ff_,ff_,ff_,ff_,ff_,ff_,ff_,ff_,ff_] rfl rfl (by kernel_rfl) (by decide) (fun K hK => ?_)
 refine goes_ Try.func27 (by kernel_rfl) rfl #[.agg #[.int .i64 1, .int .i64 1, .slice (some ay) 1 cy], .agg #[.int .i64 1, .int .i64 1, .slice (some az) 1 cz]] (by rfl) rfl rfl (by (try simp only [List.map_toArray, List.map_cons, List.map_nil]); rfl) ?_
 with_reducible refine (plane_k1 _ S14.out.q.z S14.out.q.cz1 S14.out.p.z S14.out.p.cz1).mono ?_
 rintro e w15 ⟨rfl, hb⟩
 refine ⟨_, rfl, ?_⟩
 have S15 := Aside0.mk (S14.out.below hb)
 have B15 := Aside0.mk (below_step B14.out hb)
 clear hb
 refine hK.out _ _ ⟨S15.out.c3, S15.out.c7, S15.out.h0, S15.out.h1, S15.out.h2, S15.out.h3, S15.out.h4, S15.out.p.a0, S15.out.p.a1, S15.out.p.a2, S15.out.q.a0, S15.out.q.a1, S15.out.q.a2⟩ (fun hHeld => ?_)
 clear hK K
 refine norm_ (a' := ?_) ?_ ?_
 rotate_left
 ·show Act.put _ (some 101) _ = _
  simp only [Act.put, List.setIfInBounds_toArray, List.set_cons_zero, List.set_cons_succ, i64_w, i32_w]
  rfl
 refine pure_ (i := 38) (N := some 102) (v := ?_) (a' := ?_) #[tt_,tt_,tt_,tt_,tt_,tt_,tt_,tt_,tt_,tt_,tt_,tt_,tt_,tt_,tt_,tt_,tt_,tt_,tt_,tt_,tt_,tt_,tt_,tt_,tt_,tt_,tt_,tt_,tt_,tt_,tt_,tt_,tt_,tt_,tt_,tt_,tt_,tt_,tt_,ff_,ff_,ff_,ff_,ff_,ff_,ff_,ff_,ff_,ff_,ff_,ff_] rfl rfl (by kernel_rfl) (fun _ _ _ h => h) (Or.inl ⟨by rfl, ?_⟩) ?_ ?_
 rotate_left
 ·intro w'
  go_simp
  with_reducible rfl
 rotate_left
 ·simp only [Act.put, List.setIfInBounds_toArray, List.set_cons_zero, List.set_cons_succ, i64_w, i32_w]
  rfl
 refine pure_ (i := 39) (N := some 103) (v := ?_) (a' := ?_) #[tt_,tt_,tt_,tt_,tt_,tt_,tt_,tt_,tt_,tt_,tt_,tt_,tt_,tt_,tt_,tt_,tt_,tt_,tt_,tt_,tt_,tt_,tt_,tt_,tt_,tt_,tt_,tt_,tt_,tt_,tt_,tt_,tt_,tt_,tt_,tt_,tt_,tt_,tt_,tt_,ff_,ff_,ff_,ff_,ff_,ff_,ff_,ff_,ff_,ff_,ff_] rfl rfl (by kernel_rfl) (fun _ _ _ h => h) (Or.inl ⟨by rfl, ?_⟩) ?_ ?_
 rotate_left
 ·intro w'
  go_simp
  with_reducible rfl
 rotate_left
 ·simp only [Act.put, List.setIfInBounds_toArray, List.set_cons_zero, List.set_cons_succ, i64_w, i32_w]
  rfl
 refine pure_ (i := 40) (N := some 104) (v := ?_) (a' := ?_) #[tt_,tt_,tt_,tt_,tt_,tt_,tt_,tt_,tt_,tt_,tt_,tt_,tt_,tt_,tt_,tt_,tt_,tt_,tt_,tt_,tt_,tt_,tt_,tt_,tt_,tt_,tt_,tt_,tt_,tt_,tt_,tt_,tt_,tt_,tt_,tt_,tt_,tt_,tt_,tt_,tt_,ff_,ff_,ff_,ff_,ff_,ff_,ff_,ff_,ff_,ff_] rfl rfl (by kernel_rfl) (fun _ _ _ h => h) (Or.inl ⟨by rfl, ?_⟩) ?_ ?_
 rotate_left
 ·intro w'
  go_simp
  with_reducible rfl
 rotate_left
 ·simp only [Act.put, List.setIfInBounds_toArray, List.set_cons_zero, List.set_cons_succ, i64_w, i32_w]
  rfl
 refine pure_ (i := 41) (N := some 105) (v := ?_) (a' := ?_) #[tt_,tt_,tt_,tt_,tt_,tt_,tt_,tt_,tt_,tt_,tt_,tt_,tt_,tt_,tt_,tt_,tt_,tt_,tt_,tt_,tt_,tt_,tt_,tt_,tt_,tt_,tt_,tt_,tt_,tt_,tt_,tt_,tt_,tt_,tt_,tt_,tt_,tt_,tt_,tt_,tt_,tt_,ff_,ff_,ff_,ff_,ff_,ff_,ff_,ff_,ff_] rfl rfl (by kernel_rfl) (fun _ _ _ h => h) (Or.inl ⟨by rfl, ?_⟩) ?_ ?_
 rotate_left
 ·intro w'
  go_simp
  with_reducible rfl
 rotate_left
 ·simp only [Act.put, List.setIfInBounds_toArray, List.set_cons_zero, List.set_cons_succ, i64_w, i32_w]
  rfl
 refine one_ (i := 42) (N := some 106) #[tt_,tt_,tt_,tt_,tt_,tt_,tt_,tt_,tt_,tt_,tt_,tt_,tt_,tt_,tt_,tt_,tt_,tt_,tt_,tt_,tt_,tt_,tt_,tt_,tt_,tt_,tt_,tt_,tt_,tt_,tt_,tt_,tt_,tt_,tt_,tt_,tt_,tt_,tt_,tt_,tt_,tt_,tt_,ff_,ff_,ff_,ff_,ff_,ff_,ff_,ff_] rfl rfl (by kernel_rfl) (by decide) (fun K hK => ?_)
 refine value_ (w1 := ?_) (v := ?_) (by rfl) rfl ?_ ?_
 rotate_left 2
 ·go_simp
  constructor
  ·rfl
  ·rfl
 have S16 := Aside0.mk (S15.out.below (below1 w15 (.cells #[.int .i64 0] 3 (0, 0))))
 have B16 := Aside0.mk (below_step B15.out (below1 w15 (.cells #[.int .i64 0] 3 (0, 0))))
 refine hK.out _ _ ⟨S16.out.c3, S16.out.c7, S16.out.h0, S16.out.h1, S16.out.h2, S16.out.h3, S16.out.h4, S16.out.p.a0, S16.out.p.a1, S16.out.p.a2, S16.out.q.a0, S16.out.q.a1, S16.out.q.a2⟩ (fun hHeld => ?_)
 clear hK K
 refine norm_ (a' := ?_) ?_ ?_
 rotate_left
 ·show Act.put _ (some 106) _ = _
  simp only [Act.put, List.setIfInBounds_toArray, List.set_cons_zero, List.set_cons_succ, i64_w, i32_w]
  rfl
 refine one_ (i := 43) (N := some 107) #[tt_,tt_,tt_,tt_,tt_,tt_,tt_,tt_,tt_,tt_,tt_,tt_,tt_,tt_,tt_,tt_,tt_,tt_,tt_,tt_,tt_,tt_,tt_,tt_,tt_,tt_,tt_,tt_,tt_,tt_,tt_,tt_,tt_,tt_,tt_,tt_,tt_,tt_,tt_,tt_,tt_,tt_,tt_,tt_,ff_,ff_,ff_,ff_,ff_,ff_,ff_] rfl rfl (by kernel_rfl) (by decide) (fun K hK => ?_)
 refine goes_ Try.func41 (by kernel_rfl) rfl #[.slice (some ar) 1 cr, .slice (some ⟨w15.heap.size, 0, none⟩) 1 1] (by rfl) rfl rfl (by (try simp only [List.map_toArray, List.map_cons, List.map_nil]); rfl) ?_
 with_reducible refine (ints_k1 _ S16.out.r S16.out.r1 (blk_new w15 _)).mono ?_
 rintro e w17 ⟨rfl, hb⟩
 refine ⟨_, rfl, ?_⟩
 have S17 := Aside0.mk (S16.out.below hb)
 have B17 := Aside0.mk (below_step B16.out hb)
 clear hb
 refine hK.out _ _ ⟨S17.out.c3, S17.out.c7, S17.out.h0, S17.out.h1, S17.out.h2, S17.out.h3, S17.out.h4, S17.out.p.a0, S17.out.p.a1, S17.out.p.a2, S17.out.q.a0, S17.out.q.a1, S17.out.q.a2⟩ (fun hHeld => ?_)
 clear hK K
 refine norm_ (a' := ?_) ?_ ?_
 rotate_left
 ·show Act.put _ (some 107) _ = _
  simp only [Act.put, List.setIfInBounds_toArray, List.set_cons_zero, List.set_cons_succ, i64_w, i32_w]
  rfl
 refine pure_ (i := 44) (N := some 108) (v := ?_) (a' := ?_) #[tt_,tt_,tt_,tt_,tt_,tt_,tt_,tt_,tt_,tt_,tt_,tt_,tt_,tt_,tt_,tt_,tt_,tt_,tt_,tt_,tt_,tt_,tt_,tt_,tt_,tt_,tt_,tt_,tt_,tt_,tt_,tt_,tt_,tt_,tt_,tt_,tt_,tt_,tt_,tt_,tt_,tt_,tt_,tt_,tt_,ff_,ff_,ff_,ff_,ff_,ff_] rfl rfl (by kernel_rfl) (fun _ _ _ h => h) (Or.inl ⟨by rfl, ?_⟩) ?_ ?_
 rotate_left
 ·intro w'
  go_simp
  with_reducible rfl
 rotate_left
 ·simp only [Act.put, List.setIfInBounds_toArray, List.set_cons_zero, List.set_cons_succ, i64_w, i32_w]
  rfl
 refine pure_ (i := 45) (N := some 109) (v := ?_) (a' := ?_) #[tt_,tt_,tt_,tt_,tt_,tt_,tt_,tt_,tt_,tt_,tt_,tt_,tt_,tt_,tt_,tt_,tt_,tt_,tt_,tt_,tt_,tt_,tt_,tt_,tt_,tt_,tt_,tt_,tt_,tt_,tt_,tt_,tt_,tt_,tt_,tt_,tt_,tt_,tt_,tt_,tt_,tt_,tt_,tt_,tt_,tt_,ff_,ff_,ff_,ff_,ff_] rfl rfl (by kernel_rfl) (fun _ _ _ h => h) (Or.inl ⟨by rfl, ?_⟩) ?_ ?_
 rotate_left
 ·intro w'
  go_simp
  with_reducible rfl
 rotate_left
 ·simp only [Act.put, List.setIfInBounds_toArray, List.set_cons_zero, List.set_cons_succ, i64_w, i32_w]
  rfl
 refine pure_ (i := 46) (N := some 110) (v := ?_) (a' := ?_) #[tt_,tt_,tt_,tt_,tt_,tt_,tt_,tt_,tt_,tt_,tt_,tt_,tt_,tt_,tt_,tt_,tt_,tt_,tt_,tt_,tt_,tt_,tt_,tt_,tt_,tt_,tt_,tt_,tt_,tt_,tt_,tt_,tt_,tt_,tt_,tt_,tt_,tt_,tt_,tt_,tt_,tt_,tt_,tt_,tt_,tt_,tt_,ff_,ff_,ff_,ff_] rfl rfl (by kernel_rfl) (fun _ _ _ h => h) (Or.inl ⟨by rfl, ?_⟩) ?_ ?_
 rotate_left
 ·intro w'
  go_simp
  with_reducible rfl
 rotate_left
 ·simp only [Act.put, List.setIfInBounds_toArray, List.set_cons_zero, List.set_cons_succ, i64_w, i32_w]
  rfl
 refine pure_ (i := 48) (N := some 112) (v := ?_) (a' := ?_) #[tt_,tt_,tt_,tt_,tt_,tt_,tt_,tt_,tt_,tt_,tt_,tt_,tt_,tt_,tt_,tt_,tt_,tt_,tt_,tt_,tt_,tt_,tt_,tt_,tt_,tt_,tt_,tt_,tt_,tt_,tt_,tt_,tt_,tt_,tt_,tt_,tt_,tt_,tt_,tt_,tt_,tt_,tt_,tt_,tt_,tt_,tt_,ff_,tt_,ff_,ff_] rfl rfl (by kernel_rfl) (fun _ _ _ h => h) (Or.inl ⟨by rfl, ?_⟩) ?_ ?_
 rotate_left
 ·intro w'
  go_simp
  with_reducible rfl
 rotate_left
 ·simp only [Act.put, List.setIfInBounds_toArray, List.set_cons_zero, List.set_cons_succ, i64_w, i32_w]
  rfl
 refine take_ (i := 47) (N := some 111) (v := ?_) (a' := ?_) #[tt_,tt_,tt_,tt_,tt_,tt_,tt_,tt_,tt_,tt_,tt_,tt_,tt_,tt_,tt_,tt_,tt_,tt_,tt_,tt_,tt_,tt_,tt_,tt_,tt_,tt_,tt_,tt_,tt_,tt_,tt_,tt_,tt_,tt_,tt_,tt_,tt_,tt_,tt_,tt_,tt_,tt_,tt_,tt_,tt_,tt_,tt_,tt_,tt_,ff_,ff_] rfl rfl (by kernel_rfl) (fun _ _ _ h => h) (Or.inl ⟨by rfl, ?_⟩) hHeld ?_ ?_
 rotate_left
 ·rintro w' ⟨s0, s1, s2, s3, s4, s5, s6, s7, s8, s9, s10, s11, s12⟩
  go_simp
  with_reducible rfl
 rotate_left
 ·simp only [Act.put, List.setIfInBounds_toArray, List.set_cons_zero, List.set_cons_succ, i64_w, i32_w]
  rfl
 refine pure_ (i := 49) (N := some 113) (v := ?_) (a' := ?_) #[tt_,tt_,tt_,tt_,tt_,tt_,tt_,tt_,tt_,tt_,tt_,tt_,tt_,tt_,tt_,tt_,tt_,tt_,tt_,tt_,tt_,tt_,tt_,tt_,tt_,tt_,tt_,tt_,tt_,tt_,tt_,tt_,tt_,tt_,tt_,tt_,tt_,tt_,tt_,tt_,tt_,tt_,tt_,tt_,tt_,tt_,tt_,tt_,tt_,tt_,ff_] rfl rfl (by kernel_rfl) (fun _ _ _ h => h) (Or.inl ⟨by rfl, ?_⟩) ?_ ?_
 rotate_left
 ·intro w'
  go_simp
  with_reducible rfl
 rotate_left
 ·simp only [Act.put, List.setIfInBounds_toArray, List.set_cons_zero, List.set_cons_succ, i64_w, i32_w]
  rfl
 refine pure_ (i := 50) (N := some 114) (v := ?_) (a' := ?_) #[tt_,tt_,tt_,tt_,tt_,tt_,tt_,tt_,tt_,tt_,tt_,tt_,tt_,tt_,tt_,tt_,tt_,tt_,tt_,tt_,tt_,tt_,tt_,tt_,tt_,tt_,tt_,tt_,tt_,tt_,tt_,tt_,tt_,tt_,tt_,tt_,tt_,tt_,tt_,tt_,tt_,tt_,tt_,tt_,tt_,tt_,tt_,tt_,tt_,tt_,tt_] rfl rfl (by kernel_rfl) (fun _ _ _ h => h) (Or.inl ⟨by rfl, ?_⟩) ?_ ?_
 rotate_left
 ·intro w'
  go_simp
  with_reducible rfl
 rotate_left
 ·simp only [Act.put, List.setIfInBounds_toArray, List.set_cons_zero, List.set_cons_succ, i64_w, i32_w]
  rfl
 refine done_ (by kernel_rfl) ?_
 clear hq60
 have K17 := Aside0.mk S17.out.b
 clear S12 S13 S14 S15 S16 S17 B12 B13 B14 B15 B16 hHeld w00 w01
 go_upto_region 10 with (go_at_call 22; with_reducible refine (Rests_k w17).mono ?_; rintro e w18 ⟨ax, cx, rfl, hR, hx, hb⟩; have X18 := Aside0.mk hR; have HX := Aside0.mk hx; have K18 := Aside0.mk (K17.out.below hb); have B18 := Aside0.mk (below_step B17.out hb); clear hR hx hb)
 clear K17 B17
 go_upto_region 11 with (first | (go_at_call 24; with_reducible refine (Plane_k w18).mono ?_; rintro e w19 ⟨as_, cs, rfl, hR, hx, hb⟩; have Y19 := Aside0.mk hR; have HY := Aside0.mk hx; have X19 := Aside0.mk (Kd.C_below X18.out hb); have K19 := Aside0.mk (K18.out.below hb); have B19 := Aside0.mk (below_step B18.out hb); clear hR hx hb) | ((with_reducible refine gate_dst (N := 12) rfl ?_); refine box_event ?hg (N := 12) ?hd (cs := #[.int .i64 0, .int .i64 0, .slice none 0 0]) (t := 31) ?hr ?_; (case hd => rfl); (case hg => rfl); (case hr => first | (go_simp; done) | (go_simp; rfl)); intro g12 hg_ w20 hm_ hb_; have X_ := Aside0.mk (put3 (x := .int .i64 2) (y := .int .i64 1) (z := .slice (some as_) 2 cs) hm_ rfl); have HB_ := Aside0.mk ((show Below w19.heap.size w19 w20 from hb_).trans (X_.out.2.2 _ (by rw [hg_]; exact Nat.le_refl _))); have K21 := Aside0.mk (K19.out.below HB_.out); have X21 := Aside0.mk (Kd.C_below X19.out HB_.out); have Y21 := Aside0.mk (Kd.C_below Y19.out HB_.out); have B21 := Aside0.mk (below_step B19.out HB_.out); have M_ := Aside0.mk hm_; have o0 := (blk_cell M_.out 0).trans rfl; have o1 := (blk_cell M_.out 1).trans rfl; have o2 := (blk_cell M_.out 2).trans rfl; have fo0 := blk_frozen M_.out 0; have fo1 := blk_frozen M_.out 1; have fo2 := blk_frozen M_.out 2; have G21 := Aside0.mk (X_.out.1); clear hm_ hb_ hg_ X_ HB_ M_))
 generalize ((w20.setCell ⟨g12, 0, none⟩ (.int .i64 2)).setCell ⟨g12, 1, none⟩ (.int .i64 1)).setCell ⟨g12, 2, none⟩ (.slice (some as_) 2 cs) = w21 at *
 clear o0 o1 o2 fo0 fo1 fo2 K18 B18 X18 K19 B19 X19 Y19
 have k3 : 24 ≤ c := by omega
 have k4 : 11 ≤ c := by omega
 go_upto_region 12 with (first | (go_at_call 36; with_reducible refine (Dec_n _ K21.out (n := 24) (by decide) kB_24.1).mono ?_; rintro e w22 ⟨rfl, hb⟩; have Y22 := Aside0.mk (Kd.C_below Y21.out hb); have X22 := Aside0.mk (Kd.C_below X21.out hb); have K22 := Aside0.mk (K21.out.below hb); have B22 := Aside0.mk (below_step B21.out hb); have G22 := Aside0.mk (blk_below G21.out hb); clear hb) | ((with_reducible refine gate_dst (N := 14) rfl ?_); refine box_event ?hg (N := 14) ?hd (cs := #[.int .i64 0, .slice none 0 0]) (t := 47) ?hr ?_; (case hd => rfl); (case hg => rfl); (case hr => first | (go_simp; done) | (go_simp; rfl)); intro g14 hg_ w23 hm_ hb_; have X_ := Aside0.mk (put2 (x := .int .i64 0) (y := .slice none 0 0) hm_ rfl); have HB_ := Aside0.mk ((show Below w22.heap.size w22 w23 from hb_).trans (X_.out.2.2 _ (by rw [hg_]; exact Nat.le_refl _))); have K24 := Aside0.mk (K22.out.below HB_.out); have X24 := Aside0.mk (Kd.C_below X22.out HB_.out); have Y24 := Aside0.mk (Kd.C_below Y22.out HB_.out); have G24 := Aside0.mk (blk_below G22.out HB_.out); have B24 := Aside0.mk (below_step B22.out HB_.out); have M_ := Aside0.mk hm_; have o0 := (blk_cell M_.out 0).trans rfl; have o1 := (blk_cell M_.out 1).trans rfl; have fo0 := blk_frozen M_.out 0; have fo1 := blk_frozen M_.out 1; clear hm_ hb_ hg_ X_ HB_ M_))
 generalize (w23.setCell ⟨g14, 0, none⟩ (.int .i64 0)).setCell ⟨g14, 1, none⟩ (.slice none 0 0) = w24 at *
 clear o0 o1 fo0 fo1 K21 B21 X21 Y21 G21 K22 B22 X22 Y22 G22
 go_upto_region 13 with (first | (go_at_call 36; with_reducible refine (Dec_n _ K24.out (n := 11) (by decide) kB_24.2).mono ?_; rintro e w25 ⟨rfl, hb⟩; have Y25 := Aside0.mk (Kd.C_below Y24.out hb); have X25 := Aside0.mk (Kd.C_below X24.out hb); have B25 := Aside0.mk (below_step B24.out hb); have G25 := Aside0.mk (blk_below G24.out hb); clear hb) | ((with_reducible refine gate_dst (N := 16) rfl ?_); refine box_event ?hg (N := 16) ?hd (cs := #[.int .i64 0, .slice none 0 0]) (t := 47) ?hr ?_; (case hd => rfl); (case hg => rfl); (case hr => first | (go_simp; done) | (go_simp; rfl)); intro g16 hg_ w26 hm_ hb_; have X_ := Aside0.mk (put2 (x := .int .i64 0) (y := .slice none 0 0) hm_ rfl); have HB_ := Aside0.mk ((show Below w25.heap.size w25 w26 from hb_).trans (X_.out.2.2 _ (by rw [hg_]; exact Nat.le_refl _))); have X27 := Aside0.mk (Kd.C_below X25.out HB_.out); have Y27 := Aside0.mk (Kd.C_below Y25.out HB_.out); have G27 := Aside0.mk (blk_below G25.out HB_.out); have B27 := Aside0.mk (below_step B25.out HB_.out); have M_ := Aside0.mk hm_; have o0 := (blk_cell M_.out 0).trans rfl; have o1 := (blk_cell M_.out 1).trans rfl; have fo0 := blk_frozen M_.out 0; have fo1 := blk_frozen M_.out 1; clear hm_ hb_ hg_ X_ HB_ M_))
 generalize (w26.setCell ⟨g16, 0, none⟩ (.int .i64 0)).setCell ⟨g16, 1, none⟩ (.slice none 0 0) = w27 at *
 clear o0 o1 fo0 fo1 B24 X24 Y24 G24 B25 X25 Y25 G25 K24
 have z2 := (blk_cell G27.out 2).trans rfl
 have kc := fun (w : World) (C : Array Value) (n c : Nat) => Lib.run_convert_bytes_const (P := Try.prog) w 23 5 C n c Try.underlying23 Try.underlying5
 go_wp2_with (first | (go_at_call 26; with_reducible refine (words_ka w27 X27.out HX.out).mono ?_; rintro e w28 ⟨rfl, hb⟩; have Y28 := Aside0.mk (Kd.C_below Y27.out hb); have G28 := Aside0.mk (blk_below G27.out hb); have B28 := Aside0.mk (below_step B27.out hb); have z2 := (blk_cell G28.out 2).trans rfl; clear hb) |
  (go_at_call 26; with_reducible refine (words_kb w28 Y28.out HY.out).mono ?_; rintro e w29 ⟨rfl, hb⟩; have B29 := Aside0.mk (below_step B28.out hb); clear hb) |
  (go_at_call 16; with_reducible refine (Sum_k w29).mono ?_; rintro e w30 ⟨rfl, hb⟩; have B30 := Aside0.mk (below_step B29.out hb); clear hb) |
  (go_at_call 19; with_reducible refine (Guess_k1 w30).mono ?_; rintro e w31 ⟨rfl, hb⟩; have B31 := Aside0.mk (below_step B30.out hb); clear hb) |
  (go_at_call 19; with_reducible refine (Guess_k2 w31).mono ?_; rintro e w32 ⟨rfl, hb⟩; have B32 := Aside0.mk (below_step B31.out hb); clear hb) |
  (go_at_call 19; with_reducible refine (Guess_k3 w32).mono ?_; rintro e w33 ⟨rfl, hb⟩; have B33 := Aside0.mk (below_step B32.out hb); clear hb))
 go_ret
 exact ⟨rfl, B33.out⟩
end Go.Proofs.Ytbbebhdcfopmmaa.A
end
section
set_option linter.unusedVariables false
set_option linter.unusedSimpArgs false
namespace Go.Proofs.Ytbbebhdcfopmmaa.A
open Go.RowKit Go.Proofs.YtbbebhdcfopmmaaW.PrintWords Go.Proofs.YtbbebhdcfopmmaaW.PrintLast Go.Proofs.YtbbebhdcfopmmaaW.PrintMore Go.Proofs.Ytbbebhdcfopmmaa.PCodecNames

theorem PicOwn.C31 {B : Nat} {W : World} {vp : Value} {w h : Nat} {hs : List Hd} {ss : List (List Nat)} (H : PicOwn B W vp w h hs ss) (h0 : 0 < ss.length) (hm : ss.length ≤ 1048576) :
    ∃ ap c, vp = .slice (some ap) ss.length c ∧ ss.length ≤ c ∧ Kd.C k31 W (some ap) ss.length (ss.map fun s => ⟨(w : Int), (h : Int), ints s⟩) := by
 have hl : hs.length = ss.length := H.len
 obtain ⟨ap, c, rfl⟩ := Kd.R_slice1 H.row (by rw [List.length_map, hl]; exact h0)
 rw [List.length_map, hl] at H ⊢
 have h4 := Kd.R_reads' H.row
 refine ⟨ap, c, rfl, h4.2.1, by rw [List.length_map], by omega, fun _ => ⟨ap, rfl, fun j p hj => ?_⟩⟩
 rw [List.getElem?_map] at hj
 obtain ⟨s, hs1, rfl⟩ := Option.map_eq_some_iff.mp hj
 have hjl : j < ss.length := (List.getElem?_eq_some_iff.mp hs1).1
 have hsj : ss.getD j [] = s := by rw [List.getD_eq_getElem?_getD, hs1]; rfl
 obtain ⟨s0, s1, s2⟩ := H.cells (k := j) (by omega)
 have hR := H.pls j (by omega)
 rw [hsj] at hR
 obtain ⟨A2, c2, hv, hc2, hC2⟩ := Kd.R_reads hR
 rw [hv] at s2
 refine ⟨[.int .i64 (w : Int), .int .i64 (h : Int), .slice A2 s.length c2], rfl, ?_, fun i u hu => ?_⟩
 ·have := k31_mk W ⟨(w : Int), (h : Int), ints s⟩ (A2 := A2) (c2 := c2) (by show (ints s).length ≤ c2; rw [ints_length]; exact hc2) (by show (Kd.int .u32).C W A2 (ints s).length (ints s); rw [ints_length]; exact C_ints hC2)
  simp only [ints_length] at this
  exact this
 ·match i, hu with
  | 0, hu => injection hu with hu; subst hu; exact s0
  | 1, hu => injection hu with hu; subst hu; exact s1
  | 2, hu => injection hu with hu; subst hu; exact s2
section
variable {p : Pic} {S : Nat}
theorem Pic.parts8 (p : Pic) (S n : Nat) : ∀ x ∈ p.parts S n, x < 256 := by
 intro x hx
 unfold Pic.parts at hx
 obtain ⟨j, _, hx⟩ := List.mem_flatMap.mp hx
 rcases List.mem_append.mp hx with hx | hx
 ·exact mem_lt_of (p.body8 S j) x hx
 ·exact beN_lt _ _ x hx
theorem enc8 (p : Pic) (S : Nat) : ∀ i, gt (encN p S) i < 256 := by
 refine gt_lt_of (by decide) fun x hx => ?_
 unfold encN at hx
 rcases List.mem_append.mp hx with hx | hx
 ·rcases List.mem_append.mp hx with hx | hx
  ·exact mem_lt_of (p.out8 S _) x hx
  ·exact beN_lt _ _ x hx
 ·exact p.parts8 S _ x hx
/-- Encode where it tells bytes -/
theorem Encode_good {n cap : Nat} {l : List S31} {A : Option Addr} {w : World} (hl : l = p.s31s) (hn : l.length = n) (hp : p.ok) (hS : 1 ≤ S) (hS2 : S ≤ 1024) (hC : Kd.C k31 w A n l) (hcap : n ≤ cap) {b : List Nat} (hb : encN p S = b) :
    Calls Try.prog 31 #[.agg #[.int .i64 (p.sp : Int), .slice A n cap], .int .i64 (S : Int)] w fun e w' => ∃ A' c', e = .returned (.tuple #[.slice A' b.length c', .int .i64 0]) ∧ b.length ≤ c' ∧ (nat .u8).C w' A' b.length b ∧ Below w.heap.size w w' := by
 subst hn hb
 refine (Encode_calls2 p S cap l A w hl hp hS hS2 hC hcap).mono ?_
 rintro e w' ⟨v, rfl, hO, hb⟩
 obtain ⟨A', c', rfl, h1, h2⟩ := hO.C
 exact ⟨A', c', rfl, h1, h2, hb⟩
end
end Go.Proofs.Ytbbebhdcfopmmaa.A
end
section
set_option linter.unusedVariables false
set_option linter.unusedSimpArgs false
namespace Go.Proofs.Ytbbebhdcfopmmaa.A
open Go.RowKit Go.Proofs.YtbbebhdcfopmmaaW.PrintWords Go.Proofs.YtbbebhdcfopmmaaW.PrintLast Go.Proofs.YtbbebhdcfopmmaaW.PrintMore Go.Proofs.Ytbbebhdcfopmmaa.PCodecNames

theorem cut_nat {A : Option Addr} {s : List Nat} {c lo hi : Nat} (h1 : lo ≤ hi) (h2 : hi ≤ s.length) (hc : s.length ≤ c) :
    ∃ A', (∀ W, (Instr.slice 29 (.slice A s.length c) (some (.int .i64 (lo : Int))) (some (.int .i64 (hi : Int))) none).run Try.prog W = .ok (.slice A' (hi - lo) (c - lo)) W) ∧ ∀ w, (nat .u32).C w A s.length s → (nat .u32).C w A' (hi - lo) ((s.take hi).drop lo) := by
 obtain ⟨i0, hi0, _, hsz, _⟩ := info_parts info24
 obtain ⟨A', e1, e2, _⟩ := print_mid_of (P := Try.prog) (fun x : Nat => Value.int .u32 (x : Int)) 0 29 24 .i64 .i64 Try.underlying29 hi0 hsz A c s (lo : Int) (hi : Int) (by omega) (by omega) (by omega) hc
 simp only [Int.toNat_natCast] at e1 e2
 have hl : ((s.take hi).drop lo).length = hi - lo := by rw [List.length_drop, List.length_take]; omega
 rw [hl] at e1 e2
 exact ⟨A', e1, fun w h => Kd.C_of_reads (h1 := fun _ => rfl) (e2 w (Kd.reads_of_C h))⟩
/-- the rows of a crop by now -/
def cropTo (s : List Nat) (W x0 y0 dx n : Nat) : List Nat := gridTo (cropF s W x0 y0) dx (dx * n)
theorem cropTo_succ {s : List Nat} {W x0 y0 dx n : Nat} (hd : 0 < dx) (h : (y0 + n) * W + (x0 + dx) ≤ s.length) : cropTo s W x0 y0 dx n ++ (s.take ((y0 + n) * W + (x0 + dx))).drop ((y0 + n) * W + x0) = cropTo s W x0 y0 dx (n + 1) := by
 apply List.ext_getElem?
 intro i
 unfold cropTo
 have hl : (gridTo (cropF s W x0 y0) dx (dx * n)).length = dx * n := gridTo_length _ _ _
 have hm : dx * (n + 1) = dx * n + dx := Nat.mul_succ _ _
 by_cases hi : i < dx * n
 ·rw [List.getElem?_append_left (by rw [hl]; exact hi)]
  unfold gridTo
  rw [List.getElem?_map, List.getElem?_map, List.getElem?_range hi, List.getElem?_range (by omega)]
 ·rw [List.getElem?_append_right (by rw [hl]; omega), hl, List.getElem?_drop, List.getElem?_take]
  by_cases hj : i < dx * (n + 1)
  ·rw [if_pos (by omega)]
   unfold gridTo
   rw [List.getElem?_map, List.getElem?_range hj]
   have e1 : i / dx = n := by
    have : i = (i - dx * n) + n * dx := by rw [Nat.mul_comm n dx]; omega
    rw [this, Nat.add_mul_div_right _ _ hd, Nat.div_eq_of_lt (by omega)]; omega
   have e2 : i % dx = i - dx * n := by
    have : i = (i - dx * n) + n * dx := by rw [Nat.mul_comm n dx]; omega
    rw [this, Nat.add_mul_mod_self_right, Nat.mod_eq_of_lt (by omega)]; omega
   have h3 : (y0 + n) * W + x0 + (i - dx * n) < s.length := by omega
   rw [List.getElem?_eq_getElem h3]
   show some _ = some (cropF s W x0 y0 (i % dx) (i / dx))
   rw [e1, e2]
   unfold cropF gt
   rw [List.getD_eq_getElem?_getD]
   have e3 : (y0 + n) * W + (x0 + (i - dx * n)) = (y0 + n) * W + x0 + (i - dx * n) := by omega
   first | rw [e3, List.getElem?_eq_getElem h3]; rfl | (rw [List.getElem?_eq_getElem (by omega)]; simp [e3])
  ·rw [if_neg (by omega)]
   unfold gridTo
   rw [List.getElem?_map, List.getElem?_eq_none (by rw [List.length_range]; omega)]
   rfl
set_option maxHeartbeats 8000000 in
set_option maxRecDepth 100000 in
theorem hCrop_calls (W Ht x0 y0 x1 y1 c : Nat) (A : Option Addr) (s : List Nat) (w : World) (hC : (nat .u32).C w A s.length s) (hcap : s.length ≤ c) (hx : x0 < x1) (hx1 : x1 ≤ W) (hy : y0 < y1) (hy1 : y1 ≤ Ht) (hs : s.length = W * Ht) (hW : W ≤ 1024) (hH : Ht ≤ 1024) :
    Calls Try.prog 60 #[.agg #[.int .i64 (W : Int), .int .i64 (Ht : Int), .slice A s.length c], .agg #[.int .i64 (x0 : Int), .int .i64 (y0 : Int), .int .i64 (x1 : Int), .int .i64 (y1 : Int)]] w fun e w' => ∃ v, e = .returned (.agg #[.int .i64 ((x1 - x0 : Nat) : Int), .int .i64 ((y1 - y0 : Nat) : Int), v]) ∧ (nat .u32).R 24 w' w.heap.size (fun _ => True) v (cropN s W x0 y0 x1 y1) ∧ Below w.heap.size w w' := by
 have hu31 := Try.underlying31
 have hu73 := Try.underlying73
 have HC := Aside0.mk hC
 have HCAP := Aside0.mk hcap
 obtain ⟨dx, hdx⟩ : ∃ d, x1 - x0 = d := ⟨_, rfl⟩
 obtain ⟨dy, hdy⟩ : ∃ d, y1 - y0 = d := ⟨_, rfl⟩
 have HD : Aside0 (x0 + dx = x1 ∧ 0 < dx ∧ y0 + dy = y1) := ⟨by omega⟩
 have HB_ : Aside0 (x1 ≤ W ∧ y1 ≤ Ht ∧ W ≤ 1024 ∧ Ht ≤ 1024 ∧ s.length = W * Ht) := ⟨⟨hx1, hy1, hW, hH, hs⟩⟩
 have ex : IntKind.i64.wrap ((x1 : Int) - (x0 : Int)) = (dx : Int) := by rw [IntKind.wrap_i64]; omega
 have ey : IntKind.i64.wrap ((y1 : Int) - (y0 : Int)) = (dy : Int) := by rw [IntKind.wrap_i64]; omega
 have ex' : (x1 : Int) - (x0 : Int) = (dx : Int) := by omega
 have ey' : (y1 : Int) - (y0 : Int) = (dy : Int) := by omega
 have hE : Aside0 (cropTo s W x0 y0 dx dy = cropN s W x0 y0 x1 y1) := ⟨by unfold cropN cropTo; rw [hdx, hdy]⟩
 have b1 : x1 ≤ 1024 := by omega
 have b2 : y1 ≤ 1024 := by omega
 rw [hdx, hdy]
 clear hC hcap hdx hdy hx hx1 hy hy1 hs
 go_enter Try.func60, Try.ntmps60
 go_upto_region 2 with (first | ((with_reducible refine gate_dst (N := 2) rfl ?_); refine box_event ?hg (N := 2) ?hd (cs := #[.int .i64 (W : Int), .int .i64 (Ht : Int), .slice A s.length c]) (t := 31) ?hr ?_; (case hd => rfl); (case hg => rfl); (case hr => first | (go_simp; done) | (go_simp; rfl)); intro gP hg_ w1 hm_ hb_; have P1 := Aside0.mk (hm_); have B1 := Aside0.mk (hb_); have p0 := (blk_cell P1.out 0).trans rfl; have p1 := (blk_cell P1.out 1).trans rfl; have p2 := (blk_cell P1.out 2).trans rfl; clear hm_ hb_ hg_) | ((with_reducible refine gate_dst (N := 3) rfl ?_); refine box_event ?hg (N := 3) ?hd (cs := #[.int .i64 (x0 : Int), .int .i64 (y0 : Int), .int .i64 (x1 : Int), .int .i64 (y1 : Int)]) (t := 73) ?hr ?_; (case hd => rfl); (case hg => rfl); (case hr => first | (go_simp; done) | (go_simp; rfl)); intro gR hg_ w2 hm_ hb_; have P2 := Aside0.mk (blk_below P1.out hb_); have R2 := Aside0.mk (hm_); have B2 := Aside0.mk (below_step B1.out hb_); have r0 := (blk_cell R2.out 0).trans rfl; have r1 := (blk_cell R2.out 1).trans rfl; have r2 := (blk_cell R2.out 2).trans rfl; have r3 := (blk_cell R2.out 3).trans rfl; clear p0 p1 p2; clear hm_ hb_ hg_) | ((with_reducible refine gate_dst (N := 4) rfl ?_); refine box_event ?hg (N := 4) ?hd (cs := #[.int .i64 0, .int .i64 0, .slice none 0 0]) (t := 31) ?hr ?_; (case hd => rfl); (case hg => rfl); (case hr => first | (go_simp; done) | (go_simp; rfl)); intro gO hg_ w3 hm_ hb_; have P3 := Aside0.mk (blk_below P2.out hb_); have R3 := Aside0.mk (blk_below R2.out hb_); have O3 := Aside0.mk (hm_); have B3 := Aside0.mk (below_step B2.out hb_); have GO := Aside0.mk ((show w.heap.size ≤ gO by rw [hg_]; exact below_size B2.out)); clear r0 r1 r2 r3; have r0 := (blk_cell R3.out 0).trans rfl; have r1 := (blk_cell R3.out 1).trans rfl; have r2 := (blk_cell R3.out 2).trans rfl; have r3 := (blk_cell R3.out 3).trans rfl; clear hm_ hb_ hg_) | ((with_reducible refine gate_dst (N := 5) rfl ?_); refine box_event ?hg (N := 5) ?hd (cs := #[.int .i64 0, .int .i64 0, .slice none 0 0]) (t := 31) ?hr ?_; (case hd => rfl); (case hg => rfl); (case hr => first | (go_simp; done) | (go_simp; rfl)); intro gQ hg_ w4 hm_ hb_; have P4 := Aside0.mk (blk_below P3.out hb_); have R4 := Aside0.mk (blk_below R3.out hb_); have O4 := Aside0.mk (blk_below O3.out hb_); have Q4 := Aside0.mk (hm_); have B4 := Aside0.mk (below_step B3.out hb_); have GQ := Aside0.mk ((show w.heap.size ≤ gQ by rw [hg_]; exact below_size B3.out)); have NPQ := Aside0.mk ((show gP ≠ gQ by rw [hg_]; exact Nat.ne_of_lt (blk_lt P3.out))); have NOQ := Aside0.mk ((show gO ≠ gQ by rw [hg_]; exact Nat.ne_of_lt (blk_lt O3.out))); clear r0 r1 r2 r3; have r0 := (blk_cell R4.out 0).trans rfl; have r1 := (blk_cell R4.out 1).trans rfl; have r2 := (blk_cell R4.out 2).trans rfl; have r3 := (blk_cell R4.out 3).trans rfl; have o0 := (blk_cell Q4.out 0).trans rfl; have o1 := (blk_cell Q4.out 1).trans rfl; have o2 := (blk_cell Q4.out 2).trans rfl; have fo0 := blk_frozen Q4.out 0; have fo1 := blk_frozen Q4.out 1; have fo2 := blk_frozen Q4.out 2; clear hm_ hb_ hg_))
 obtain ⟨w5, hw5⟩ : ∃ w5, w5 = ((w4.setCell ⟨gQ, 0, none⟩ (.int .i64 (dx : Int))).setCell ⟨gQ, 1, none⟩ (.int .i64 (dy : Int))).setCell ⟨gQ, 2, none⟩ (.slice none 0 0) := ⟨_, rfl⟩
 rw [← hw5]
 obtain ⟨hG, hst, hbl⟩ := put3 Q4.out hw5
 have Q5 := Aside0.mk hG
 have P5 := Aside0.mk ((hst gP NPQ.out).trans P4.out)
 have R5 := Aside0.mk ((hst gR (blk_ne R4.out Q4.out (by decide))).trans R4.out)
 have O5 := Aside0.mk ((hst gO NOQ.out).trans O4.out)
 have B5 := Aside0.mk (B4.out.trans (hbl _ GQ.out))
 clear hw5 hG hst hbl o0 o1 o2 fo0 fo1 fo2 r0 r1 r2 r3 P3 R3 O3 B3 P2 R2 B2 P1 B1 P4 R4 O4 B4 Q4 ex ey ex' ey'
 have r1 := (blk_cell R5.out 1).trans rfl
 go_wp2
 clear r1
 go_loopw [6] (fun v W' => ∃ (n yy : Nat) (u : Value), n ≤ dy ∧ v = .int .i64 (yy : Int) ∧ Aside0 (yy = y0 + n) ∧ Aside0 (W'.heap[gP]? = some (.cells #[.int .i64 (W : Int), .int .i64 (Ht : Int), .slice A s.length c] 31 (0, 0)) ∧ W'.heap[gR]? = some (.cells #[.int .i64 (x0 : Int), .int .i64 (y0 : Int), .int .i64 (x1 : Int), .int .i64 (y1 : Int)] 73 (0, 0)) ∧ W'.heap[gO]? = some (.cells #[.int .i64 0, .int .i64 0, .slice none 0 0] 31 (0, 0)) ∧ W'.heap[gQ]? = some (.cells #[.int .i64 (dx : Int), .int .i64 (dy : Int), u] 31 (0, 0)) ∧ (nat .u32).R 24 W' w.heap.size (fun _ => True) u (cropTo s W x0 y0 dx n) ∧ Below w.heap.size w W')) (fun v _ => y1 - (intOf v).toNat)
 case atStart => exact ⟨0, y0, .slice none 0 0, Nat.zero_le _, rfl, ⟨rfl⟩, ⟨P5.out, R5.out, O5.out, Q5.out, by unfold cropTo; rw [Nat.mul_zero]; exact Kd.R_nil _ _ _ _ _, B5.out⟩⟩
 case round =>
  obtain ⟨n, yy, u, hn, rfl, HY, HI⟩ := hrel
  have P6 := Aside0.mk HI.out.1
  have R6 := Aside0.mk HI.out.2.1
  have O6 := Aside0.mk HI.out.2.2.1
  have Q6 := Aside0.mk HI.out.2.2.2.1
  have V6 := Aside0.mk HI.out.2.2.2.2.1
  have B6 := Aside0.mk HI.out.2.2.2.2.2
  clear HI
  have r3 := (blk_cell R6.out 3).trans rfl
  by_cases hlt : n < dy
  ·have hyy : yy < y1 := by have := HY.out; have := HD.out; omega
   have c1 : decide ((yy : Int) < (y1 : Int)) = true := decide_eq_true (by omega)
   have c2 : decide (yy < y1) = true := decide_eq_true hyy
   obtain ⟨yw, hyw⟩ : ∃ r, yy * W = r := ⟨_, rfl⟩
   obtain ⟨lo, hlo⟩ : ∃ r, yw + x0 = r := ⟨_, rfl⟩
   obtain ⟨hi, hhi⟩ : ∃ r, yw + x1 = r := ⟨_, rfl⟩
   have hb := HB_.out
   have hy2 : yw + W ≤ W * Ht := by
    rw [← hyw, ← Nat.succ_mul, Nat.mul_comm W Ht]
    exact Nat.mul_le_mul_right _ (by omega)
   have hWH : W * Ht ≤ 1048576 := Nat.mul_le_mul hb.2.2.1 hb.2.2.2.1
   have hd := HD.out
   have hcp := HCAP.out
   have f1 : IntKind.i64.wrap ((yy : Int) * (W : Int)) = (yw : Int) := by rw [← hyw, ← Int.natCast_mul, IntKind.wrap_i64]; omega
   have f2 : IntKind.i64.wrap ((yw : Int) + (x0 : Int)) = (lo : Int) := by rw [IntKind.wrap_i64]; omega
   have f3 : IntKind.i64.wrap ((yw : Int) + (x1 : Int)) = (hi : Int) := by rw [IntKind.wrap_i64]; omega
   obtain ⟨A7, hcut, hCC⟩ := cut_nat (A := A) (s := s) (c := c) (lo := lo) (hi := hi) (by omega) (by omega) hcp
   obtain ⟨c7, hc7⟩ : ∃ r, c - lo = r := ⟨_, rfl⟩
   rw [show hi - lo = dx by omega, hc7] at hcut
   rw [show hi - lo = dx by omega] at hCC
   have HCC := Aside0.mk (hCC w HC.out)
   have HSU : Aside0 (cropTo s W x0 y0 dx n ++ (s.take hi).drop lo = cropTo s W x0 y0 dx (n + 1)) := ⟨by
    have h := cropTo_succ (s := s) (W := W) (x0 := x0) (y0 := y0) (dx := dx) (n := n) hd.2.1 (by rw [← HY.out, hyw]; omega)
    rw [← HY.out, hyw, hd.1, hhi, hlo] at h
    exact h⟩
   have HLN : Aside0 (((cropTo s W x0 y0 dx n).length + dx) * 4 ≤ 140737488355328) := ⟨by
    have h1 : (cropTo s W x0 y0 dx n).length = dx * n := gridTo_length _ _ _
    have h2 : dx * n ≤ 1024 * 1024 := Nat.mul_le_mul (by omega) (by omega)
    rw [h1]; omega⟩
   clear hyw hlo hhi hb hy2 hWH hd hcp hCC hc7
   go_upto_region 5 with (fail)
   have P_ := Aside0.mk (blk_drew P6.out)
   have R_ := Aside0.mk (blk_drew R6.out)
   have O_ := Aside0.mk (blk_drew O6.out)
   have Q_ := Aside0.mk (blk_drew Q6.out)
   have V_ := Aside0.mk (Kd.R_drew V6.out)
   have B_ := Aside0.mk (below_drew1 B6.out)
   clear P6 R6 O6 Q6 V6 B6 r3
   refine start_ (n := 22) (S := fun w' => w'.cell? ⟨gQ, 2, none⟩ = some (u) ∧ w'.cell? ⟨gP, 2, none⟩ = some (.slice A s.length c) ∧ w'.cell? ⟨gP, 0, none⟩ = some (.int .i64 (W : Int)) ∧ w'.cell? ⟨gR, 0, none⟩ = some (.int .i64 (x0 : Int)) ∧ w'.cell? ⟨gR, 2, none⟩ = some (.int .i64 (x1 : Int))) (ds := [21]) #[ff_,ff_,ff_,ff_,ff_,ff_,ff_,ff_,ff_,ff_,ff_,ff_,ff_,ff_,ff_,ff_,ff_,ff_,ff_,ff_,ff_,ff_] (by kernel_rfl) rfl rfl ⟨(blk_cell Q_.out 2).trans rfl, (blk_cell P_.out 2).trans rfl, (blk_cell P_.out 0).trans rfl, (blk_cell R_.out 0).trans rfl, (blk_cell R_.out 2).trans rfl⟩ (fun hHeld => ?_)
   generalize wr.drew = wd at *
   refine pure_ (i := 0) (N := some 26) (v := ?_) (a' := ?_) #[tt_,ff_,ff_,ff_,ff_,ff_,ff_,ff_,ff_,ff_,ff_,ff_,ff_,ff_,ff_,ff_,ff_,ff_,ff_,ff_,ff_,ff_] rfl rfl (by kernel_rfl) (fun _ _ _ h => h) (Or.inl ⟨by rfl, ?_⟩) ?_ ?_
   rotate_left
   ·intro w'
    go_simp
    with_reducible rfl
   rotate_left
   ·simp only [Act.put, List.setIfInBounds_toArray, List.set_cons_zero, List.set_cons_succ, i64_w, i32_w]
    rfl
   refine pure_ (i := 2) (N := some 28) (v := ?_) (a' := ?_) #[tt_,ff_,tt_,ff_,ff_,ff_,ff_,ff_,ff_,ff_,ff_,ff_,ff_,ff_,ff_,ff_,ff_,ff_,ff_,ff_,ff_,ff_] rfl rfl (by kernel_rfl) (fun _ _ _ h => h) (Or.inl ⟨by rfl, ?_⟩) ?_ ?_
   rotate_left
   ·intro w'
    go_simp
    with_reducible rfl
   rotate_left
   ·simp only [Act.put, List.setIfInBounds_toArray, List.set_cons_zero, List.set_cons_succ, i64_w, i32_w]
    rfl
   refine pure_ (i := 4) (N := some 30) (v := ?_) (a' := ?_) #[tt_,ff_,tt_,ff_,tt_,ff_,ff_,ff_,ff_,ff_,ff_,ff_,ff_,ff_,ff_,ff_,ff_,ff_,ff_,ff_,ff_,ff_] rfl rfl (by kernel_rfl) (fun _ _ _ h => h) (Or.inl ⟨by rfl, ?_⟩) ?_ ?_
   rotate_left
   ·intro w'
    go_simp
    with_reducible rfl
   rotate_left
   ·simp only [Act.put, List.setIfInBounds_toArray, List.set_cons_zero, List.set_cons_succ, i64_w, i32_w]
    rfl
   refine pure_ (i := 5) (N := some 31) (v := ?_) (a' := ?_) #[tt_,ff_,tt_,ff_,tt_,tt_,ff_,ff_,ff_,ff_,ff_,ff_,ff_,ff_,ff_,ff_,ff_,ff_,ff_,ff_,ff_,ff_] rfl rfl (by kernel_rfl) (fun _ _ _ h => h) (Or.inl ⟨by rfl, ?_⟩) ?_ ?_
   rotate_left
   ·intro w'
    go_simp
    with_reducible rfl
   rotate_left
   ·simp only [Act.put, List.setIfInBounds_toArray, List.set_cons_zero, List.set_cons_succ, i64_w, i32_w]
    rfl
   refine pure_ (i := 8) (N := some 34) (v := ?_) (a' := ?_) #[tt_,ff_,tt_,ff_,tt_,tt_,ff_,ff_,tt_,ff_,ff_,ff_,ff_,ff_,ff_,ff_,ff_,ff_,ff_,ff_,ff_,ff_] rfl rfl (by kernel_rfl) (fun _ _ _ h => h) (Or.inl ⟨by rfl, ?_⟩) ?_ ?_
   rotate_left
   ·intro w'
    go_simp
    with_reducible rfl
   rotate_left
   ·simp only [Act.put, List.setIfInBounds_toArray, List.set_cons_zero, List.set_cons_succ, i64_w, i32_w]
    rfl
   refine pure_ (i := 11) (N := some 37) (v := ?_) (a' := ?_) #[tt_,ff_,tt_,ff_,tt_,tt_,ff_,ff_,tt_,ff_,ff_,tt_,ff_,ff_,ff_,ff_,ff_,ff_,ff_,ff_,ff_,ff_] rfl rfl (by kernel_rfl) (fun _ _ _ h => h) (Or.inl ⟨by rfl, ?_⟩) ?_ ?_
   rotate_left
   ·intro w'
    go_simp
    with_reducible rfl
   rotate_left
   ·simp only [Act.put, List.setIfInBounds_toArray, List.set_cons_zero, List.set_cons_succ, i64_w, i32_w]
    rfl
   refine pure_ (i := 12) (N := some 38) (v := ?_) (a' := ?_) #[tt_,ff_,tt_,ff_,tt_,tt_,ff_,ff_,tt_,ff_,ff_,tt_,tt_,ff_,ff_,ff_,ff_,ff_,ff_,ff_,ff_,ff_] rfl rfl (by kernel_rfl) (fun _ _ _ h => h) (Or.inl ⟨by rfl, ?_⟩) ?_ ?_
   rotate_left
   ·intro w'
    go_simp
    with_reducible rfl
   rotate_left
   ·simp only [Act.put, List.setIfInBounds_toArray, List.set_cons_zero, List.set_cons_succ, i64_w, i32_w]
    rfl
   refine pure_ (i := 15) (N := some 41) (v := ?_) (a' := ?_) #[tt_,ff_,tt_,ff_,tt_,tt_,ff_,ff_,tt_,ff_,ff_,tt_,tt_,ff_,ff_,tt_,ff_,ff_,ff_,ff_,ff_,ff_] rfl rfl (by kernel_rfl) (fun _ _ _ h => h) (Or.inl ⟨by rfl, ?_⟩) ?_ ?_
   rotate_left
   ·intro w'
    go_simp
    with_reducible rfl
   rotate_left
   ·simp only [Act.put, List.setIfInBounds_toArray, List.set_cons_zero, List.set_cons_succ, i64_w, i32_w]
    rfl
   refine take_ (i := 1) (N := some 27) (v := ?_) (a' := ?_) #[tt_,tt_,tt_,ff_,tt_,tt_,ff_,ff_,tt_,ff_,ff_,tt_,tt_,ff_,ff_,tt_,ff_,ff_,ff_,ff_,ff_,ff_] rfl rfl (by kernel_rfl) (fun _ _ _ h => h) (Or.inl ⟨by rfl, ?_⟩) hHeld ?_ ?_
   rotate_left
   ·rintro w' ⟨s0, s1, s2, s3, s4⟩
    go_simp
    with_reducible rfl
   rotate_left
   ·simp only [Act.put, List.setIfInBounds_toArray, List.set_cons_zero, List.set_cons_succ, i64_w, i32_w]
    rfl
   refine take_ (i := 3) (N := some 29) (v := ?_) (a' := ?_) #[tt_,tt_,tt_,tt_,tt_,tt_,ff_,ff_,tt_,ff_,ff_,tt_,tt_,ff_,ff_,tt_,ff_,ff_,ff_,ff_,ff_,ff_] rfl rfl (by kernel_rfl) (fun _ _ _ h => h) (Or.inl ⟨by rfl, ?_⟩) hHeld ?_ ?_
   rotate_left
   ·rintro w' ⟨s0, s1, s2, s3, s4⟩
    go_simp
    with_reducible rfl
   rotate_left
   ·simp only [Act.put, List.setIfInBounds_toArray, List.set_cons_zero, List.set_cons_succ, i64_w, i32_w]
    rfl
   refine take_ (i := 6) (N := some 32) (v := ?_) (a' := ?_) #[tt_,tt_,tt_,tt_,tt_,tt_,tt_,ff_,tt_,ff_,ff_,tt_,tt_,ff_,ff_,tt_,ff_,ff_,ff_,ff_,ff_,ff_] rfl rfl (by kernel_rfl) (fun _ _ _ h => h) (Or.inl ⟨by rfl, ?_⟩) hHeld ?_ ?_
   rotate_left
   ·rintro w' ⟨s0, s1, s2, s3, s4⟩
    go_simp
    with_reducible rfl
   rotate_left
   ·simp only [Act.put, List.setIfInBounds_toArray, List.set_cons_zero, List.set_cons_succ, i64_w, i32_w]
    rfl
   refine pure_ (i := 7) (N := some 33) (v := ?_) (a' := ?_) #[tt_,tt_,tt_,tt_,tt_,tt_,tt_,tt_,tt_,ff_,ff_,tt_,tt_,ff_,ff_,tt_,ff_,ff_,ff_,ff_,ff_,ff_] rfl rfl (by kernel_rfl) (fun _ _ _ h => h) (Or.inl ⟨by rfl, ?_⟩) ?_ ?_
   rotate_left
   ·intro w'
    go_simp
    with_reducible rfl
   rotate_left
   ·simp only [Act.put, List.setIfInBounds_toArray, List.set_cons_zero, List.set_cons_succ, i64_w, i32_w]
    rfl
   refine take_ (i := 9) (N := some 35) (v := ?_) (a' := ?_) #[tt_,tt_,tt_,tt_,tt_,tt_,tt_,tt_,tt_,tt_,ff_,tt_,tt_,ff_,ff_,tt_,ff_,ff_,ff_,ff_,ff_,ff_] rfl rfl (by kernel_rfl) (fun _ _ _ h => h) (Or.inl ⟨by rfl, ?_⟩) hHeld ?_ ?_
   rotate_left
   ·rintro w' ⟨s0, s1, s2, s3, s4⟩
    go_simp
    with_reducible rfl
   rotate_left
   ·simp only [Act.put, List.setIfInBounds_toArray, List.set_cons_zero, List.set_cons_succ, i64_w, i32_w]
    rfl
   refine pure_ (i := 10) (N := some 36) (v := ?_) (a' := ?_) #[tt_,tt_,tt_,tt_,tt_,tt_,tt_,tt_,tt_,tt_,tt_,tt_,tt_,ff_,ff_,tt_,ff_,ff_,ff_,ff_,ff_,ff_] rfl rfl (by kernel_rfl) (fun _ _ _ h => h) (Or.inl ⟨by rfl, ?_⟩) ?_ ?_
   rotate_left
   ·intro w'
    go_simp
    with_reducible rfl
   rotate_left
   ·simp only [Act.put, List.setIfInBounds_toArray, List.set_cons_zero, List.set_cons_succ, i64_w, i32_w]
    rfl
   refine take_ (i := 13) (N := some 39) (v := ?_) (a' := ?_) #[tt_,tt_,tt_,tt_,tt_,tt_,tt_,tt_,tt_,tt_,tt_,tt_,tt_,tt_,ff_,tt_,ff_,ff_,ff_,ff_,ff_,ff_] rfl rfl (by kernel_rfl) (fun _ _ _ h => h) (Or.inl ⟨by rfl, ?_⟩) hHeld ?_ ?_
   rotate_left
   ·rintro w' ⟨s0, s1, s2, s3, s4⟩
    go_simp
    with_reducible rfl
   rotate_left
   ·simp only [Act.put, List.setIfInBounds_toArray, List.set_cons_zero, List.set_cons_succ, i64_w, i32_w]
    rfl
   refine pure_ (i := 14) (N := some 40) (v := ?_) (a' := ?_) #[tt_,tt_,tt_,tt_,tt_,tt_,tt_,tt_,tt_,tt_,tt_,tt_,tt_,tt_,tt_,tt_,ff_,ff_,ff_,ff_,ff_,ff_] rfl rfl (by kernel_rfl) (fun _ _ _ h => h) (Or.inl ⟨by rfl, ?_⟩) ?_ ?_
   rotate_left
   ·intro w'
    go_simp
    with_reducible rfl
   rotate_left
   ·simp only [Act.put, List.setIfInBounds_toArray, List.set_cons_zero, List.set_cons_succ, i64_w, i32_w]
    rfl
   refine take_ (i := 16) (N := some 42) (v := ?_) (a' := ?_) #[tt_,tt_,tt_,tt_,tt_,tt_,tt_,tt_,tt_,tt_,tt_,tt_,tt_,tt_,tt_,tt_,tt_,ff_,ff_,ff_,ff_,ff_] rfl rfl (by kernel_rfl) (fun _ _ _ h => h) (Or.inl ⟨by rfl, ?_⟩) hHeld ?_ ?_
   rotate_left
   ·rintro w' ⟨s0, s1, s2, s3, s4⟩
    go_simp
    with_reducible rfl
   rotate_left
   ·simp only [Act.put, List.setIfInBounds_toArray, List.set_cons_zero, List.set_cons_succ, i64_w, i32_w]
    rfl
   refine pure_ (i := 17) (N := some 43) (v := ?_) (a' := ?_) #[tt_,tt_,tt_,tt_,tt_,tt_,tt_,tt_,tt_,tt_,tt_,tt_,tt_,tt_,tt_,tt_,tt_,tt_,ff_,ff_,ff_,ff_] rfl rfl (by kernel_rfl) (fun _ _ _ h => h) (Or.inl ⟨by rfl, ?_⟩) ?_ ?_
   rotate_left
   ·intro w'
    go_simp
    with_reducible rfl
   rotate_left
   ·simp only [Act.put, List.setIfInBounds_toArray, List.set_cons_zero, List.set_cons_succ, i64_w, i32_w]
    rfl
   refine pure_ (i := 18) (N := some 44) (v := ?_) (a' := ?_) #[tt_,tt_,tt_,tt_,tt_,tt_,tt_,tt_,tt_,tt_,tt_,tt_,tt_,tt_,tt_,tt_,tt_,tt_,tt_,ff_,ff_,ff_] rfl rfl (by kernel_rfl) (fun _ _ _ h => h) (Or.inl ⟨by rfl, ?_⟩) ?_ ?_
   rotate_left
   ·intro w'
    go_simp
    with_reducible rfl
   rotate_left
   ·simp only [Act.put, List.setIfInBounds_toArray, List.set_cons_zero, List.set_cons_succ, i64_w, i32_w]
    rfl
   refine one_ (i := 19) (N := some 45) #[tt_,tt_,tt_,tt_,tt_,tt_,tt_,tt_,tt_,tt_,tt_,tt_,tt_,tt_,tt_,tt_,tt_,tt_,tt_,tt_,ff_,ff_] rfl rfl (by kernel_rfl) (by decide) (fun K hK => ?_)
   refine Kd.R_append_rows_step (nat .u32) (Rr := (nat .u32).K wd) (w0 := w) w.heap.size (by rfl) (.tmp 27) (.tmp 44) 29 24 (.int .u32 0) 4 rfl Try.underlying29 info24 rfl (by decide) (by decide) u (cropTo s W x0 y0 dx n) ((s.take hi).drop lo) A7 dx c7 (fun _ => True) (fun _ => False) rfl rfl V_.out (Kd.C_below HCC.out B_.out) (fun _ _ h => h) (fun _ hk => hk.elim) (fun _ _ => trivial) B_.out (below_size B_.out) HLN.out ?_
   intro v7 w7 hR hB hg hat
   rw [HSU.out] at hR
   obtain ⟨A8, c8, hv8⟩ := Kd.R_slice hR
   subst hv8
   have P7 := Aside0.mk (blk_grown P_.out hg (Kd.R_ne V_.out P_.out (by decide)))
   have R7 := Aside0.mk (blk_grown R_.out hg (Kd.R_ne V_.out R_.out (by decide)))
   have O7 := Aside0.mk (blk_grown O_.out hg (Kd.R_ne V_.out O_.out (by decide)))
   have Q7 := Aside0.mk (blk_grown Q_.out hg (Kd.R_ne V_.out Q_.out (by decide)))
   have V7 := Aside0.mk hR
   have B7 := Aside0.mk hB
   clear hR hB hg hat
   have o0 := (blk_cell Q7.out 0).trans rfl
   have o1 := (blk_cell Q7.out 1).trans rfl
   have o2 := (blk_cell Q7.out 2).trans rfl
   have fo0 := blk_frozen Q7.out 0
   have fo1 := blk_frozen Q7.out 1
   have fo2 := blk_frozen Q7.out 2
   refine hK.out _ _ ⟨(blk_cell Q7.out 2).trans rfl, (blk_cell P7.out 2).trans rfl, (blk_cell P7.out 0).trans rfl, (blk_cell R7.out 0).trans rfl, (blk_cell R7.out 2).trans rfl⟩ (fun hHeld => ?_)
   clear hK K
   refine norm_ (a' := ?_) ?_ ?_
   rotate_left
   ·show Act.put _ (some 45) _ = _
    simp only [Act.put, List.setIfInBounds_toArray, List.set_cons_zero, List.set_cons_succ, i64_w, i32_w]
    rfl
   refine pure_ (i := 20) (N := some 46) (v := ?_) (a' := ?_) #[tt_,tt_,tt_,tt_,tt_,tt_,tt_,tt_,tt_,tt_,tt_,tt_,tt_,tt_,tt_,tt_,tt_,tt_,tt_,tt_,tt_,ff_] rfl rfl (by kernel_rfl) (fun _ _ _ h => h) (Or.inl ⟨by rfl, ?_⟩) ?_ ?_
   rotate_left
   ·intro w'
    go_simp
    with_reducible rfl
   rotate_left
   ·simp only [Act.put, List.setIfInBounds_toArray, List.set_cons_zero, List.set_cons_succ, i64_w, i32_w]
    rfl
   refine last_ (i := 21) (N := none) #[tt_,tt_,tt_,tt_,tt_,tt_,tt_,tt_,tt_,tt_,tt_,tt_,tt_,tt_,tt_,tt_,tt_,tt_,tt_,tt_,tt_,tt_] rfl rfl (by kernel_rfl) (by decide) (fun K hK => ?_)
   refine skip_ (w1 := ?_) (by rfl) rfl ?_ ?_
   rotate_left
   ·go_simp
    rfl
   refine hK.out _ _ ?_
   clear hK K
   refine done_ (by kernel_rfl) ?_
   obtain ⟨w10, hw10⟩ : ∃ w10, w10 = w7.setCell ⟨gQ, 2, none⟩ (.slice A8 (cropTo s W x0 y0 dx (n + 1)).length c8) := ⟨_, rfl⟩
   rw [← hw10]
   clear o0 o1 o2 fo0 fo1 fo2 hHeld P_ R_ O_ Q_ V_ B_ f1 f2 f3 hcut
   have st10 : ∀ k, k ≠ gQ → w10.heap[k]? = w7.heap[k]? := by rw [hw10]; exact fun k hk => Below.heap_setCell _ _ _ k hk
   have I10 : Aside0 (w10.heap[gP]? = some (.cells #[.int .i64 (W : Int), .int .i64 (Ht : Int), .slice A s.length c] 31 (0, 0)) ∧ w10.heap[gR]? = some (.cells #[.int .i64 (x0 : Int), .int .i64 (y0 : Int), .int .i64 (x1 : Int), .int .i64 (y1 : Int)] 73 (0, 0)) ∧ w10.heap[gO]? = some (.cells #[.int .i64 0, .int .i64 0, .slice none 0 0] 31 (0, 0)) ∧ w10.heap[gQ]? = some (.cells #[.int .i64 (dx : Int), .int .i64 (dy : Int), .slice A8 (cropTo s W x0 y0 dx (n + 1)).length c8] 31 (0, 0)) ∧ (nat .u32).R 24 w10 w.heap.size (fun _ => True) (.slice A8 (cropTo s W x0 y0 dx (n + 1)).length c8) (cropTo s W x0 y0 dx (n + 1)) ∧ Below w.heap.size w w10) :=
    ⟨(st10 gP NPQ.out).trans P7.out, (st10 gR (blk_ne R7.out Q7.out (by decide))).trans R7.out, (st10 gO NOQ.out).trans O7.out, by rw [hw10]; exact (blk_set Q7.out 2 _).trans rfl, nat_move V7.out (fun k hk => st10 k (fun e => Kd.R_ne V7.out Q7.out (by decide) (by rw [← e]; exact hk.symm))), by rw [hw10]; exact B7.out.setCell (p := ⟨gQ, 2, none⟩) GQ.out _⟩
   clear hw10 st10 P7 R7 O7 Q7 V7 B7
   obtain ⟨y2, hy2⟩ : ∃ r, yy + 1 = r := ⟨_, rfl⟩
   have HY2 : Aside0 (y2 = y0 + (n + 1)) := ⟨by have := HY.out; omega⟩
   have g1 : (yy : Int) + 1 = (y2 : Int) := by omega
   have hyb : yy ≤ 1024 := by omega
   go_wp2
   go_roundw
   case measure => simp [intOf]; omega
   case rel => exact ⟨n + 1, y2, _, by omega, rfl, HY2, I10⟩
  ·have hyy : ¬ yy < y1 := by have := HY.out; have := HD.out; omega
   have c1 : decide ((yy : Int) < (y1 : Int)) = false := decide_eq_false (by omega)
   have c2 : decide (yy < y1) = false := decide_eq_false hyy
   obtain rfl : n = dy := by omega
   rw [hE.out] at V6
   obtain ⟨A8, c8, rfl⟩ := Kd.R_slice V6.out
   have q0 := (blk_cell Q6.out 0).trans rfl
   have q1 := (blk_cell Q6.out 1).trans rfl
   have q2 := (blk_cell Q6.out 2).trans rfl
   have fo0 := blk_frozen O6.out 0
   have fo1 := blk_frozen O6.out 1
   have fo2 := blk_frozen O6.out 2
   have co0 := (blk_cell O6.out 0).trans rfl
   have co1 := (blk_cell O6.out 1).trans rfl
   have co2 := (blk_cell O6.out 2).trans rfl
   go_wp2
   obtain ⟨wz, hwz⟩ : ∃ wz, wz = ((wr.setCell ⟨gO, 0, none⟩ (.int .i64 (dx : Int))).setCell ⟨gO, 1, none⟩ (.int .i64 (n : Int))).setCell ⟨gO, 2, none⟩ (.slice A8 (cropN s W x0 y0 x1 y1).length c8) := ⟨_, rfl⟩
   rw [← hwz]
   obtain ⟨hGz, hstz, hblz⟩ := put3 O6.out hwz
   refine bodyPost_ret (results_cell_row rfl _ _ gO 31 #[.int .i64 (dx : Int), .int .i64 (n : Int), .slice A8 (cropN s W x0 y0 x1 y1).length c8] (0, 0) _ rfl hGz Try.underlying31 rfl (by kernel_rfl)) rfl ?_
   exact ⟨_, rfl, nat_move V6.out (fun k hk => hstz k (fun e => Kd.R_ne V6.out O6.out (by decide) (by rw [← e]; exact hk.symm))), B6.out.trans (hblz _ GO.out)⟩
end Go.Proofs.Ytbbebhdcfopmmaa.A
end
section
set_option linter.unusedVariables false
set_option linter.unusedSimpArgs false
namespace Go.Proofs.Ytbbebhdcfopmmaa.A
open Go.RowKit Go.Proofs.YtbbebhdcfopmmaaW.PrintWords Go.Proofs.YtbbebhdcfopmmaaW.PrintLast Go.Proofs.YtbbebhdcfopmmaaW.PrintMore Go.Proofs.Ytbbebhdcfopmmaa.PCodecNames

theorem take_rd {l : List S31} {i : Nat} (h : i < l.length) {a b : Int} {y : List Int} (e : rd_T31 l (i : Int) = ⟨a, b, y⟩) : l.take i ++ [⟨a, b, y⟩] = l.take (i + 1) := by
 rw [List.take_add_one, List.getElem?_eq_getElem h, ← e]
 unfold rd_T31
 rw [Int.toNat_natCast, List.getD_eq_getElem?_getD, List.getElem?_eq_getElem h]
 rfl
theorem put1 {w3 w4 : World} {g j : Nat} {t : TypeId} {cs : Array Value} {x : Value} (hP : w3.heap[g]? = some (.cells cs t (0, 0))) (h : w4 = w3.setCell ⟨g, j, none⟩ x) :
    w4.heap[g]? = some (.cells (cs.setIfInBounds j x) t (0, 0)) ∧ (∀ k, k ≠ g → w4.heap[k]? = w3.heap[k]?) ∧ (∀ B, B ≤ g → Below B w3 w4) := by
 subst h
 exact ⟨blk_set hP j x, fun k hk => Below.heap_setCell _ _ _ k hk, fun B hB => (Below.refl B w3).setCell (p := ⟨g, j, none⟩) hB x⟩
set_option maxHeartbeats 8000000 in
set_option maxRecDepth 100000 in
theorem CropPic_row (sp : Int) (rx0 ry0 rx1 ry1 : Int) (A : Option Addr) (cap n : Nat) (l lo : List S31) (w : World) (hn : l.length = n) (hlo : lo.length = n) (hC : Kd.C k31 w A n l) (hcap : n ≤ cap) (hn2 : n ≤ 1048576)
    (hcall : ∀ i : Nat, i < n → ∀ (W : World) (A2 : Option Addr) (c2 : Nat), Kd.C (Kd.int .u32) W A2 (rd_T31 l (i : Int)).f2.length (rd_T31 l (i : Int)).f2 → (rd_T31 l (i : Int)).f2.length ≤ c2 → Calls Try.prog 60 #[.agg #[.int .i64 (rd_T31 l (i : Int)).f0, .int .i64 (rd_T31 l (i : Int)).f1, .slice A2 (rd_T31 l (i : Int)).f2.length c2], .agg #[.int .i64 rx0, .int .i64 ry0, .int .i64 rx1, .int .i64 ry1]] W fun e w1 => ∃ v, e = .returned (.agg #[.int .i64 (rd_T31 lo (i : Int)).f0, .int .i64 (rd_T31 lo (i : Int)).f1, v]) ∧ (Kd.int .u32).R 24 w1 W.heap.size (fun _ => True) v (rd_T31 lo (i : Int)).f2 ∧ Below W.heap.size W w1) :
    Calls Try.prog 43 #[.agg #[.int .i64 sp, .slice A n cap], .agg #[.int .i64 rx0, .int .i64 ry0, .int .i64 rx1, .int .i64 ry1]] w fun e w' => ∃ v, e = .returned (.agg #[.int .i64 sp, v]) ∧ Kd.S k31 31 w' w.heap.size (fun _ => True) v lo ∧ Below w.heap.size w w' := by
 have hu31 := Try.underlying31
 have hu47 := Try.underlying47
 have hu73 := Try.underlying73
 have HC := Aside0.mk hC
 have HCAP := Aside0.mk hcap
 have HLO := Aside0.mk hlo
 have HN := Aside0.mk hn
 have HN2 := Aside0.mk hn2
 have HCALL := Aside0.mk hcall
 clear hC hcap hlo hn hcall
 go_enter Try.func43, Try.ntmps43
 go_upto_region 2 with (first | ((with_reducible refine gate_dst (N := 2) rfl ?_); refine box_event ?hg (N := 2) ?hd (cs := #[.int .i64 sp, .slice A n cap]) (t := 47) ?hr ?_; (case hd => rfl); (case hg => rfl); (case hr => first | (go_simp; done) | (go_simp; rfl)); intro gP hg_ w1 hm_ hb_; have P1 := Aside0.mk (hm_); have B1 := Aside0.mk (hb_); have p0 := (blk_cell P1.out 0).trans rfl; have p1 := (blk_cell P1.out 1).trans rfl; clear hm_ hb_ hg_) | ((with_reducible refine gate_dst (N := 3) rfl ?_); refine box_event ?hg (N := 3) ?hd (cs := #[.int .i64 rx0, .int .i64 ry0, .int .i64 rx1, .int .i64 ry1]) (t := 73) ?hr ?_; (case hd => rfl); (case hg => rfl); (case hr => first | (go_simp; done) | (go_simp; rfl)); intro gR hg_ w2 hm_ hb_; have P2 := Aside0.mk (blk_below P1.out hb_); have R2 := Aside0.mk (hm_); have B2 := Aside0.mk (below_step B1.out hb_); clear p0 p1; have p0 := (blk_cell P2.out 0).trans rfl; have p1 := (blk_cell P2.out 1).trans rfl; clear hm_ hb_ hg_) | ((with_reducible refine gate_dst (N := 4) rfl ?_); refine box_event ?hg (N := 4) ?hd (cs := #[.int .i64 0, .slice none 0 0]) (t := 47) ?hr ?_; (case hd => rfl); (case hg => rfl); (case hr => first | (go_simp; done) | (go_simp; rfl)); intro gO hg_ w3 hm_ hb_; have P3 := Aside0.mk (blk_below P2.out hb_); have R3 := Aside0.mk (blk_below R2.out hb_); have O3 := Aside0.mk (hm_); have B3 := Aside0.mk (below_step B2.out hb_); have GO := Aside0.mk ((show w.heap.size ≤ gO by rw [hg_]; exact below_size B2.out)); have NPO := Aside0.mk ((show gP ≠ gO by rw [hg_]; exact Nat.ne_of_lt (blk_lt P2.out))); clear p0 p1; have p0 := (blk_cell P3.out 0).trans rfl; have p1 := (blk_cell P3.out 1).trans rfl; clear hm_ hb_ hg_) | ((with_reducible refine gate_dst (N := 5) rfl ?_); refine box_event ?hg (N := 5) ?hd (cs := #[.int .i64 0, .slice none 0 0]) (t := 47) ?hr ?_; (case hd => rfl); (case hg => rfl); (case hr => first | (go_simp; done) | (go_simp; rfl)); intro gQ hg_ w4 hm_ hb_; have P4 := Aside0.mk (blk_below P3.out hb_); have R4 := Aside0.mk (blk_below R3.out hb_); have O4 := Aside0.mk (blk_below O3.out hb_); have Q4 := Aside0.mk (hm_); have B4 := Aside0.mk (below_step B3.out hb_); have GQ := Aside0.mk ((show w.heap.size ≤ gQ by rw [hg_]; exact below_size B3.out)); have NPQ := Aside0.mk ((show gP ≠ gQ by rw [hg_]; exact Nat.ne_of_lt (blk_lt P3.out))); have NOQ := Aside0.mk ((show gO ≠ gQ by rw [hg_]; exact Nat.ne_of_lt (blk_lt O3.out))); clear p0 p1; have p0 := (blk_cell P4.out 0).trans rfl; have p1 := (blk_cell P4.out 1).trans rfl; have o0 := (blk_cell Q4.out 0).trans rfl; have o1 := (blk_cell Q4.out 1).trans rfl; have fo0 := blk_frozen Q4.out 0; have fo1 := blk_frozen Q4.out 1; clear hm_ hb_ hg_))
 obtain ⟨w5, hw5⟩ : ∃ w5, w5 = (w4.setCell ⟨gQ, 0, none⟩ (.int .i64 sp)).setCell ⟨gQ, 1, none⟩ (.slice none 0 0) := ⟨_, rfl⟩
 rw [← hw5]
 obtain ⟨hG, hst, hbl⟩ := put2 Q4.out hw5
 have Q5 := Aside0.mk hG
 have P5 := Aside0.mk ((hst gP NPQ.out).trans P4.out)
 have R5 := Aside0.mk ((hst gR (blk_ne R4.out Q4.out (by decide))).trans R4.out)
 have O5 := Aside0.mk ((hst gO NOQ.out).trans O4.out)
 have B5 := Aside0.mk (B4.out.trans (hbl _ GQ.out))
 clear hw5 hG hst hbl o0 o1 fo0 fo1 p0 p1 P3 O3 B3 P1 B1 P4 O4 B4 Q4 P2 R2 B2 R3 R4
 go_wp2
 go_loopw [6] (fun v W' => ∃ (i : Nat) (u : Value), i ≤ n ∧ v = .int .i64 (i : Int) ∧ Aside0 (W'.heap[gP]? = some (.cells #[.int .i64 sp, .slice A n cap] 47 (0, 0)) ∧ W'.heap[gR]? = some (.cells #[.int .i64 rx0, .int .i64 ry0, .int .i64 rx1, .int .i64 ry1] 73 (0, 0)) ∧ W'.heap[gO]? = some (.cells #[.int .i64 0, .slice none 0 0] 47 (0, 0)) ∧ W'.heap[gQ]? = some (.cells #[.int .i64 sp, u] 47 (0, 0)) ∧ Kd.S k31 31 W' w.heap.size (fun _ => True) u (lo.take i) ∧ Below w.heap.size w W')) (fun v _ => n - (intOf v).toNat)
 case atStart => exact ⟨0, .slice none 0 0, Nat.zero_le _, rfl, ⟨P5.out, R5.out, O5.out, Q5.out, Kd.S_nil _ _ _ _ _, B5.out⟩⟩
 case round =>
  obtain ⟨i, u, hi, rfl, HI⟩ := hrel
  have P6 := Aside0.mk HI.out.1
  have R6 := Aside0.mk HI.out.2.1
  have O6 := Aside0.mk HI.out.2.2.1
  have Q6 := Aside0.mk HI.out.2.2.2.1
  have V6 := Aside0.mk HI.out.2.2.2.2.1
  have B6 := Aside0.mk HI.out.2.2.2.2.2
  clear HI
  have p1 := (blk_cell P6.out 1).trans rfl
  by_cases hlt : i < n
  ·have c1 : decide ((i : Int) < (n : Int)) = true := decide_eq_true (by omega)
   have c2 : decide (i < n) = true := decide_eq_true hlt
   have k1 : ((i : Int) < (n : Int)) = True := eq_true (by omega)
   have k2 : (i < n) = True := eq_true hlt
   have HLT := Aside0.mk hlt
   obtain ⟨ad, A2, c2_, had, y0, y1, y2, hA2, hCA⟩ := at_T31 HC.out (i : Int) (by omega) (by omega)
   subst had
   rw [Int.toNat_natCast] at y0 y1 y2
   have hcl := HCALL.out i hlt
   have hil : i < lo.length := by rw [HLO.out]; exact hlt
   obtain ⟨x, hx⟩ : ∃ x, rd_T31 l (i : Int) = x := ⟨_, rfl⟩
   obtain ⟨z, hz⟩ : ∃ z, rd_T31 lo (i : Int) = z := ⟨_, rfl⟩
   rw [hx, hz] at hcl
   rw [hx] at y0 y1 y2 hA2 hCA
   obtain ⟨a0, a1, zs⟩ := x
   obtain ⟨b0, b1, ys⟩ := z
   obtain ⟨l2, hl2⟩ : ∃ r, lo.take (i + 1) = r := ⟨_, rfl⟩
   have HSU := Aside0.mk ((take_rd hil hz).trans hl2)
   have HL2 := Aside0.mk hl2
   have HCALL_ := Aside0.mk hcl
   have HA2 := Aside0.mk hA2
   have HCA := Aside0.mk hCA
   obtain ⟨aq, haq⟩ : ∃ a, ad.add (i * 3) = a := ⟨_, rfl⟩
   rw [haq] at y0 y1 y2
   have Y0 : Aside0 (w.cell? aq = some (.int .i64 a0)) := ⟨y0⟩
   have Y1 : Aside0 (w.cell? ⟨aq.block, aq.off + 1, none⟩ = some (.int .i64 a1)) := ⟨y1⟩
   have Y2 : Aside0 (w.cell? ⟨aq.block, aq.off + 2, none⟩ = some (.slice A2 zs.length c2_)) := ⟨y2⟩
   have HLN : Aside0 (((lo.take i).length + 1) * 40 ≤ 140737488355328) := ⟨by rw [List.length_take]; omega⟩
   clear y0 y1 y2 hA2 hCA hcl hil hx hz hlt hl2
   go_upto_region 5 with (fail)
   have P_ := Aside0.mk (blk_drew P6.out)
   have R_ := Aside0.mk (blk_drew R6.out)
   have O_ := Aside0.mk (blk_drew O6.out)
   have Q_ := Aside0.mk (blk_drew Q6.out)
   have V_ := Aside0.mk (Kd.S_drew V6.out)
   have B_ := Aside0.mk (below_drew1 B6.out)
   clear P6 R6 O6 Q6 V6 B6 p1
   refine start_ (n := 13) (S := fun w' => w'.cell? ⟨gQ, 1, none⟩ = some (u) ∧ w'.cell? ⟨gP, 1, none⟩ = some (.slice (some ad) n cap) ∧ w'.cell? aq = some (.int .i64 a0) ∧ w'.cell? ⟨aq.block, aq.off + 1, none⟩ = some (.int .i64 a1) ∧ w'.cell? ⟨aq.block, aq.off + 2, none⟩ = some (.slice A2 zs.length c2_) ∧ w'.cell? ⟨gR, 0, none⟩ = some (.int .i64 rx0) ∧ w'.cell? ⟨gR, 1, none⟩ = some (.int .i64 ry0) ∧ w'.cell? ⟨gR, 2, none⟩ = some (.int .i64 rx1) ∧ w'.cell? ⟨gR, 3, none⟩ = some (.int .i64 ry1)) (ds := [12]) #[ff_,ff_,ff_,ff_,ff_,ff_,ff_,ff_,ff_,ff_,ff_,ff_,ff_] (by kernel_rfl) rfl rfl ⟨(blk_cell Q_.out 1).trans rfl, (blk_cell P_.out 1).trans rfl, cell_on1 B_.out Y0.out, cell_on1 B_.out Y1.out, cell_on1 B_.out Y2.out, (blk_cell R_.out 0).trans rfl, (blk_cell R_.out 1).trans rfl, (blk_cell R_.out 2).trans rfl, (blk_cell R_.out 3).trans rfl⟩ (fun hHeld => ?_)
   generalize wr.drew = wd at *
   refine pure_ (i := 0) (N := some 17) (v := ?_) (a' := ?_) #[tt_,ff_,ff_,ff_,ff_,ff_,ff_,ff_,ff_,ff_,ff_,ff_,ff_] rfl rfl (by kernel_rfl) (fun _ _ _ h => h) (Or.inl ⟨by rfl, ?_⟩) ?_ ?_
   rotate_left
   ·intro w'
    go_simp
    with_reducible rfl
   rotate_left
   ·simp only [Act.put, List.setIfInBounds_toArray, List.set_cons_zero, List.set_cons_succ, i64_w, i32_w]
    rfl
   refine pure_ (i := 2) (N := some 19) (v := ?_) (a' := ?_) #[tt_,ff_,tt_,ff_,ff_,ff_,ff_,ff_,ff_,ff_,ff_,ff_,ff_] rfl rfl (by kernel_rfl) (fun _ _ _ h => h) (Or.inl ⟨by rfl, ?_⟩) ?_ ?_
   rotate_left
   ·intro w'
    go_simp
    with_reducible rfl
   rotate_left
   ·simp only [Act.put, List.setIfInBounds_toArray, List.set_cons_zero, List.set_cons_succ, i64_w, i32_w]
    rfl
   refine pure_ (i := 4) (N := some 21) (v := ?_) (a' := ?_) #[tt_,ff_,tt_,ff_,tt_,ff_,ff_,ff_,ff_,ff_,ff_,ff_,ff_] rfl rfl (by kernel_rfl) (fun _ _ _ h => h) (Or.inl ⟨by rfl, ?_⟩) ?_ ?_
   rotate_left
   ·intro w'
    go_simp
    with_reducible rfl
   rotate_left
   ·simp only [Act.put, List.setIfInBounds_toArray, List.set_cons_zero, List.set_cons_succ, i64_w, i32_w]
    rfl
   refine take_ (i := 1) (N := some 18) (v := ?_) (a' := ?_) #[tt_,tt_,tt_,ff_,tt_,ff_,ff_,ff_,ff_,ff_,ff_,ff_,ff_] rfl rfl (by kernel_rfl) (fun _ _ _ h => h) (Or.inl ⟨by rfl, ?_⟩) hHeld ?_ ?_
   rotate_left
   ·rintro w' ⟨s0, s1, s2, s3, s4, s5, s6, s7, s8⟩
    go_simp
    with_reducible rfl
   rotate_left
   ·simp only [Act.put, List.setIfInBounds_toArray, List.set_cons_zero, List.set_cons_succ, i64_w, i32_w]
    rfl
   refine take_ (i := 3) (N := some 20) (v := ?_) (a' := ?_) #[tt_,tt_,tt_,tt_,tt_,ff_,ff_,ff_,ff_,ff_,ff_,ff_,ff_] rfl rfl (by kernel_rfl) (fun _ _ _ h => h) (Or.inl ⟨by rfl, ?_⟩) hHeld ?_ ?_
   rotate_left
   ·rintro w' ⟨s0, s1, s2, s3, s4, s5, s6, s7, s8⟩
    go_simp
    with_reducible rfl
   rotate_left
   ·simp only [Act.put, List.setIfInBounds_toArray, List.set_cons_zero, List.set_cons_succ, i64_w, i32_w]
    rfl
   refine pure_ (i := 5) (N := some 22) (v := ?_) (a' := ?_) #[tt_,tt_,tt_,tt_,tt_,tt_,ff_,ff_,ff_,ff_,ff_,ff_,ff_] rfl rfl (by kernel_rfl) (fun _ _ _ h => h) (Or.inl ⟨by rfl, ?_⟩) ?_ ?_
   rotate_left
   ·intro w'
    go_simp
    with_reducible rfl
   rotate_left
   ·simp only [Act.put, List.setIfInBounds_toArray, List.set_cons_zero, List.set_cons_succ, i64_w, i32_w]
    rfl
   refine take_ (i := 6) (N := some 23) (v := ?_) (a' := ?_) #[tt_,tt_,tt_,tt_,tt_,tt_,tt_,ff_,ff_,ff_,ff_,ff_,ff_] rfl rfl (by kernel_rfl) (fun _ _ _ h => h) (Or.inl ⟨by rfl, ?_⟩) hHeld ?_ ?_
   rotate_left
   ·rintro w' ⟨s0, s1, s2, s3, s4, s5, s6, s7, s8⟩
    go_simp
    with_reducible rfl
   rotate_left
   ·simp only [Act.put, List.setIfInBounds_toArray, List.set_cons_zero, List.set_cons_succ, i64_w, i32_w]
    rfl
   refine take_ (i := 7) (N := some 24) (v := ?_) (a' := ?_) #[tt_,tt_,tt_,tt_,tt_,tt_,tt_,tt_,ff_,ff_,ff_,ff_,ff_] rfl rfl (by kernel_rfl) (fun _ _ _ h => h) (Or.inl ⟨by rfl, ?_⟩) hHeld ?_ ?_
   rotate_left
   ·rintro w' ⟨s0, s1, s2, s3, s4, s5, s6, s7, s8⟩
    go_simp
    with_reducible rfl
   rotate_left
   ·simp only [Act.put, List.setIfInBounds_toArray, List.set_cons_zero, List.set_cons_succ, i64_w, i32_w]
    rfl
   refine one_ (i := 8) (N := some 25) #[tt_,tt_,tt_,tt_,tt_,tt_,tt_,tt_,tt_,ff_,ff_,ff_,ff_] rfl rfl (by kernel_rfl) (by decide) (fun K hK => ?_)
   refine goes_ Try.func60 (by kernel_rfl) rfl #[.agg #[.int .i64 a0, .int .i64 a1, .slice A2 zs.length c2_], .agg #[.int .i64 rx0, .int .i64 ry0, .int .i64 rx1, .int .i64 ry1]] (by rfl) rfl rfl (by (try simp only [List.map_toArray, List.map_cons, List.map_nil]); rfl) ?_
   with_reducible refine (HCALL_.out _ A2 c2_ (Kd.C_below HCA.out B_.out) HA2.out).mono ?_
   rintro e w6 ⟨v6, rfl, hR, hb⟩
   refine ⟨_, rfl, ?_⟩
   obtain ⟨A6, c6, rfl⟩ := Kd.R_slice hR
   have P6 := Aside0.mk (blk_below P_.out hb)
   have R6 := Aside0.mk (blk_below R_.out hb)
   have O6 := Aside0.mk (blk_below O_.out hb)
   have Q6 := Aside0.mk (blk_below Q_.out hb)
   have V6 := Aside0.mk (Kd.S_elder' V_.out (Kd.R_base hR) hb)
   have Y6 := Aside0.mk (Kd.R_lower hR (below_size B_.out))
   have B6 := Aside0.mk (below_step B_.out hb)
   clear hb hR
   refine hK.out _ _ ⟨(blk_cell Q6.out 1).trans rfl, (blk_cell P6.out 1).trans rfl, cell_on1 B6.out Y0.out, cell_on1 B6.out Y1.out, cell_on1 B6.out Y2.out, (blk_cell R6.out 0).trans rfl, (blk_cell R6.out 1).trans rfl, (blk_cell R6.out 2).trans rfl, (blk_cell R6.out 3).trans rfl⟩ (fun hHeld => ?_)
   clear hK K
   refine norm_ (a' := ?_) ?_ ?_
   rotate_left
   ·show Act.put _ (some 25) _ = _
    simp only [Act.put, List.setIfInBounds_toArray, List.set_cons_zero, List.set_cons_succ, i64_w, i32_w]
    rfl
   refine one_ (i := 9) (N := some 26) #[tt_,tt_,tt_,tt_,tt_,tt_,tt_,tt_,tt_,tt_,ff_,ff_,ff_] rfl rfl (by kernel_rfl) (by decide) (fun K hK => ?_)
   refine value_ (w1 := ?_) (v := ?_) (by rfl) rfl ?_ ?_
   rotate_left 2
   ·go_simp
    constructor
    ·rfl
    ·rfl
   refine hK.out _ _ ⟨(blk_cell (blk_alloc Q6.out _) 1).trans rfl, (blk_cell (blk_alloc P6.out _) 1).trans rfl, (World.cell?_alloc_lt _ _ _ (World.block_lt_of_cell? _ _ (cell_on1 B6.out Y0.out))).trans (cell_on1 B6.out Y0.out), (World.cell?_alloc_lt _ _ _ (World.block_lt_of_cell? _ _ (cell_on1 B6.out Y1.out))).trans (cell_on1 B6.out Y1.out), (World.cell?_alloc_lt _ _ _ (World.block_lt_of_cell? _ _ (cell_on1 B6.out Y2.out))).trans (cell_on1 B6.out Y2.out), (blk_cell (blk_alloc R6.out _) 0).trans rfl, (blk_cell (blk_alloc R6.out _) 1).trans rfl, (blk_cell (blk_alloc R6.out _) 2).trans rfl, (blk_cell (blk_alloc R6.out _) 3).trans rfl⟩ (fun hHeld => ?_)
   clear hK K
   refine norm_ (a' := ?_) ?_ ?_
   rotate_left
   ·show Act.put _ (some 26) _ = _
    simp only [Act.put, List.setIfInBounds_toArray, List.set_cons_zero, List.set_cons_succ, i64_w, i32_w]
    rfl
   refine one_ (i := 10) (N := some 27) #[tt_,tt_,tt_,tt_,tt_,tt_,tt_,tt_,tt_,tt_,tt_,ff_,ff_] rfl rfl (by kernel_rfl) (by decide) (fun K hK => ?_)
   refine Kd.S_append_step k31 (w0 := w) w.heap.size (by rfl) (.tmp 18) (.tmp 26) 45 31 (.agg #[.int .i64 0, .int .i64 0, .slice none 0 0]) 40 rfl Try.underlying45 infoPl rfl (by decide) (by decide) u (lo.take i) (⟨b0, b1, ys⟩ : S31) [.int .i64 b0, .int .i64 b1, .slice A6 ys.length c6] (fun _ => True) (fun k_ => some k_ = (.slice A6 ys.length c6 : Value).ownBlock) rfl rfl ?aP (fun k_ hk_ => ((Kd.R_mono (ok' := fun k_ => True ∧ some k_ ≠ (u : Value).ownBlock) (Kd.R_apart' (Y6.out) (Kd.S_typed V6.out) (by decide)) (fun k_ hk => ⟨trivial, hk.2⟩))).1 k_ hk_.symm) (fun _ _ => trivial) ?aO B6.out (below_size B6.out) HLN.out ?_
   (case aP => exact k31_mkM _ _ _ (⟨b0, b1, ys⟩ : S31) (Kd.R_mono (Kd.R_tight rfl (Kd.R_mono (ok' := fun k_ => True ∧ some k_ ≠ (u : Value).ownBlock) (Kd.R_apart' (Y6.out) (Kd.S_typed V6.out) (by decide)) (fun k_ hk => ⟨trivial, hk.2⟩))) (fun _ h_ => h_)))
   (case aO => exact Kd.S_mono V6.out (fun k_ hk => ⟨trivial, fun e_ => hk.2 e_⟩))
   intro v7 w7 hR hB hg hat
   rw [HSU.out] at hR
   obtain ⟨A8, c8, hv8⟩ := Kd.S_slice hR
   subst hv8
   have P7 := Aside0.mk (blk_grown P6.out hg (Kd.S_ne V6.out P6.out (by decide)))
   have R7 := Aside0.mk (blk_grown R6.out hg (Kd.S_ne V6.out R6.out (by decide)))
   have O7 := Aside0.mk (blk_grown O6.out hg (Kd.S_ne V6.out O6.out (by decide)))
   have Q7 := Aside0.mk (blk_grown Q6.out hg (Kd.S_ne V6.out Q6.out (by decide)))
   have V7 := Aside0.mk hR
   have B7 := Aside0.mk hB
   clear hR hB hg hat Y6 V6 B6 P6 R6 O6 Q6
   have o0 := (blk_cell Q7.out 0).trans rfl
   have o1 := (blk_cell Q7.out 1).trans rfl
   have fo0 := blk_frozen Q7.out 0
   have fo1 := blk_frozen Q7.out 1
   refine hK.out _ _ ⟨(blk_cell Q7.out 1).trans rfl, (blk_cell P7.out 1).trans rfl, cell_on1 B7.out Y0.out, cell_on1 B7.out Y1.out, cell_on1 B7.out Y2.out, (blk_cell R7.out 0).trans rfl, (blk_cell R7.out 1).trans rfl, (blk_cell R7.out 2).trans rfl, (blk_cell R7.out 3).trans rfl⟩ (fun hHeld => ?_)
   clear hK K
   refine norm_ (a' := ?_) ?_ ?_
   rotate_left
   ·show Act.put _ (some 27) _ = _
    simp only [Act.put, List.setIfInBounds_toArray, List.set_cons_zero, List.set_cons_succ, i64_w, i32_w]
    rfl
   refine pure_ (i := 11) (N := some 28) (v := ?_) (a' := ?_) #[tt_,tt_,tt_,tt_,tt_,tt_,tt_,tt_,tt_,tt_,tt_,tt_,ff_] rfl rfl (by kernel_rfl) (fun _ _ _ h => h) (Or.inl ⟨by rfl, ?_⟩) ?_ ?_
   rotate_left
   ·intro w'
    go_simp
    with_reducible rfl
   rotate_left
   ·simp only [Act.put, List.setIfInBounds_toArray, List.set_cons_zero, List.set_cons_succ, i64_w, i32_w]
    rfl
   refine last_ (i := 12) (N := none) #[tt_,tt_,tt_,tt_,tt_,tt_,tt_,tt_,tt_,tt_,tt_,tt_,tt_] rfl rfl (by kernel_rfl) (by decide) (fun K hK => ?_)
   refine skip_ (w1 := ?_) (by rfl) rfl ?_ ?_
   rotate_left
   ·go_simp
    rfl
   refine hK.out _ _ ?_
   clear hK K
   refine done_ (by kernel_rfl) ?_
   obtain ⟨w10, hw10⟩ : ∃ w10, w10 = w7.setCell ⟨gQ, 1, none⟩ (.slice A8 l2.length c8) := ⟨_, rfl⟩
   rw [← hw10]
   clear o0 o1 fo0 fo1 hHeld P_ R_ O_ Q_ V_ B_
   obtain ⟨hG, hst, hbl⟩ := put1 Q7.out hw10
   have I10 : Aside0 (w10.heap[gP]? = some (.cells #[.int .i64 sp, .slice (some ad) n cap] 47 (0, 0)) ∧ w10.heap[gR]? = some (.cells #[.int .i64 rx0, .int .i64 ry0, .int .i64 rx1, .int .i64 ry1] 73 (0, 0)) ∧ w10.heap[gO]? = some (.cells #[.int .i64 0, .slice none 0 0] 47 (0, 0)) ∧ w10.heap[gQ]? = some (.cells #[.int .i64 sp, (.slice A8 l2.length c8)] 47 (0, 0)) ∧ Kd.S k31 31 w10 w.heap.size (fun _ => True) (.slice A8 l2.length c8) (lo.take (i + 1)) ∧ Below w.heap.size w w10) :=
    ⟨(hst gP NPQ.out).trans P7.out, (hst gR (blk_ne R7.out Q7.out (by decide))).trans R7.out, (hst gO NOQ.out).trans O7.out, hG.trans rfl, Kd.S_mono (by rw [HL2.out, hw10]; exact Kd.S_far (p := ⟨gQ, 1, none⟩) (Kd.S_types V7.out Q7.out (by decide)) (fun _ hk => hk.2) _) (fun _ _ => trivial), B7.out.trans (hbl _ GQ.out)⟩
   clear hw10 hG hst hbl P7 R7 O7 Q7 V7 B7
   have hlt := HLT.out
   have hnb := HN2.out
   go_wp2
   go_roundw
   case measure => simp [intOf]; omega
   case rel => exact ⟨i + 1, _, by omega, by go_num, I10⟩
  ·obtain rfl : i = n := by omega
   have c1 : decide ((i : Int) < (i : Int)) = false := decide_eq_false (by omega)
   rw [List.take_of_length_le (by rw [HLO.out]; exact Nat.le_refl _)] at V6
   obtain ⟨A8, c8, rfl⟩ := Kd.S_slice V6.out
   have q0 := (blk_cell Q6.out 0).trans rfl
   have q1 := (blk_cell Q6.out 1).trans rfl
   have fo0 := blk_frozen O6.out 0
   have fo1 := blk_frozen O6.out 1
   have co0 := (blk_cell O6.out 0).trans rfl
   have co1 := (blk_cell O6.out 1).trans rfl
   go_wp2
   obtain ⟨wz, hwz⟩ : ∃ wz, wz = (wr.setCell ⟨gO, 0, none⟩ (.int .i64 sp)).setCell ⟨gO, 1, none⟩ (.slice A8 lo.length c8) := ⟨_, rfl⟩
   rw [← hwz]
   obtain ⟨hGz, hstz, hblz⟩ := put2 O6.out hwz
   refine bodyPost_ret (results_cell_row rfl _ _ gO 47 #[.int .i64 sp, .slice A8 lo.length c8] (0, 0) _ rfl hGz Try.underlying47 rfl (by kernel_rfl)) rfl ?_
   exact ⟨_, rfl, Kd.S_mono (by rw [hwz]; exact Kd.S_far (p := ⟨gO, 1, none⟩) (Kd.S_far (p := ⟨gO, 0, none⟩) (Kd.S_types V6.out O6.out (by decide)) (fun _ hk => hk.2) _) (fun _ hk => hk.2) _) (fun _ _ => trivial), B6.out.trans (hblz _ GO.out)⟩
end Go.Proofs.Ytbbebhdcfopmmaa.A
end
section
set_option linter.unusedVariables false
set_option linter.unusedSimpArgs false
namespace Go.Proofs.Ytbbebhdcfopmmaa.A
open Go.RowKit Go.Proofs.YtbbebhdcfopmmaaW.PrintWords Go.Proofs.YtbbebhdcfopmmaaW.PrintLast Go.Proofs.YtbbebhdcfopmmaaW.PrintMore Go.Proofs.Ytbbebhdcfopmmaa.PCodecNames

theorem picture_self (sp : Int) (A B : Option Addr) (cap cb n : Nat) (l : List S31) (w : World) (hn : l.length = n) (hC : Kd.C k31 w A n l) (hK : Kd.C k31 w B n l) (hn2 : n < 4611686018427387904) (hl : ∀ i : Nat, i < n → (rd_T31 l (i : Int)).f2.length < 4611686018427387904) :
    Calls Try.prog 32 #[.agg #[.int .i64 sp, .slice A n cap], .agg #[.int .i64 sp, .slice B n cb]] w fun e w' => e = .returned (.bool true) ∧ Below w.heap.size w w' := by
 refine (picture_eq sp sp A B cap cb n n l l w hn hn hC hK hn2 hl).mono ?_
 rintro e w' ⟨b, rfl, hb, hB⟩
 exact ⟨by rw [hb.mpr ⟨rfl, rfl⟩], hB⟩
theorem few_any (sp : Int) (A : Option Addr) (cap n : Nat) (l : List S31) (w : World) (hn : l.length = n) (hC : Kd.C k31 w A n l) (hs : fewTo l (min n 100) < 4611686018427387904) {z : Bool} (hz : fewB l = z) :
    Calls Try.prog 28 #[.agg #[.int .i64 sp, .slice A n cap]] w fun e w' => e = .returned (.bool z) ∧ Below w.heap.size w w' := by
 subst hz
 exact few_chk sp A cap n l w hn hC hs
theorem Encode_bad2 (sp sd : Int) (A : Option Addr) (cap n : Nat) (l : List S31) (w : World) (hn : l.length = n) (hC : Kd.C k31 w A n l) (hcap : n ≤ cap) (hl : n < 4611686018427387904) (hc : ∀ i : Nat, i < n → (rd_T31 l (i : Int)).f2.length < 4611686018427387904) {z : Nat} (hz : encE sp l sd = z) (he : z ≠ 0) :
    Calls Try.prog 31 #[.agg #[.int .i64 sp, .slice A n cap], .int .i64 sd] w fun e w' => e = .returned (.tuple #[.slice none 0 0, .int .i64 (z : Int)]) ∧ Below w.heap.size w w' := by
 subst hz
 exact Encode_bad sp sd A cap n l w hn hC hcap hl hc he
end Go.Proofs.Ytbbebhdcfopmmaa.A
end
section
set_option linter.unusedVariables false
set_option linter.unusedSimpArgs false
namespace Go.Proofs.Ytbbebhdcfopmmaa.A
open Go.RowKit Go.Proofs.YtbbebhdcfopmmaaW.PrintWords Go.Proofs.YtbbebhdcfopmmaaW.PrintLast Go.Proofs.YtbbebhdcfopmmaaW.PrintMore Go.Proofs.Ytbbebhdcfopmmaa.PCodecNames

/-- a picture's crop -/
def Pic.crop (p : Pic) (x0 y0 x1 y1 : Nat) : Pic := ⟨p.sp, x1 - x0, y1 - y0, p.ss.map fun s => cropN s p.w x0 y0 x1 y1⟩
section
variable {p : Pic} {S : Nat} {x0 y0 x1 y1 : Nat}
theorem Pic.crop_getD (p : Pic) {k : Nat} (hk : k < p.ss.length) (x0 y0 x1 y1 : Nat) : (p.crop x0 y0 x1 y1).ss.getD k [] = cropN (p.ss.getD k []) p.w x0 y0 x1 y1 := by
 show (p.ss.map _).getD k [] = _
 rw [List.getD_eq_getElem?_getD, List.getElem?_map, List.getElem?_eq_getElem hk, List.getD_eq_getElem?_getD, List.getElem?_eq_getElem hk]
 rfl
theorem Pic.crop_len (p : Pic) (x0 y0 x1 y1 : Nat) : (p.crop x0 y0 x1 y1).ss.length = p.ss.length := List.length_map _
theorem Pic.crop_ok (h : p.ok) (hx : x0 < x1) (hx1 : x1 ≤ p.w) (hy : y0 < y1) (hy1 : y1 ≤ p.h) : (p.crop x0 y0 x1 y1).ok := by
 obtain ⟨h1, h2, h3, h4, h5⟩ := h
 have hl := p.crop_len x0 y0 x1 y1
 refine ⟨h1, by rw [hl]; exact h2, by rw [hl]; exact h3, by rw [hl]; exact h4, fun k hk => ?_⟩
 rw [hl] at hk
 unfold Pic.pl
 rw [p.crop_getD hk]
 exact A.crop_ok (p := p.pl k) (h5 k hk) hx hx1 hy hy1
/-- halidehelp.CropPicture -/
theorem CropPic_calls {n cap : Nat} {l : List S31} {A : Option Addr} {w : World} (hl : l = p.s31s) (hn : l.length = n) (h : p.ok) (hC : Kd.C k31 w A n l) (hcap : n ≤ cap) (hx : x0 < x1) (hx1 : x1 ≤ p.w) (hy : y0 < y1) (hy1 : y1 ≤ p.h) {l2 : List S31} (hl2 : (p.crop x0 y0 x1 y1).s31s = l2) :
    Calls Try.prog 43 #[.agg #[.int .i64 (p.sp : Int), .slice A n cap], .agg #[.int .i64 (x0 : Int), .int .i64 (y0 : Int), .int .i64 (x1 : Int), .int .i64 (y1 : Int)]] w fun e w' => ∃ ap c, e = .returned (.agg #[.int .i64 (p.sp : Int), .slice (some ap) n c]) ∧ n ≤ c ∧ Kd.C k31 w' (some ap) n l2 ∧ Below w.heap.size w w' := by
 subst hl2
 have hnp : n = p.ss.length := by rw [← hn, hl]; exact List.length_map _
 have hn2 : (p.crop x0 y0 x1 y1).s31s.length = n := by rw [hnp]; exact (List.length_map _).trans (p.crop_len _ _ _ _)
 have h4 : p.ss.length ≤ 4 := h.2.2.1
 refine (CropPic_row (p.sp : Int) (x0 : Int) (y0 : Int) (x1 : Int) (y1 : Int) A cap n l (p.crop x0 y0 x1 y1).s31s w hn hn2 hC hcap (by omega) (fun i hi W A2 c2 hCi hci => ?_)).mono ?_
 ·have hk : i < p.ss.length := by omega
  have e1 : rd_T31 l (i : Int) = ⟨(p.w : Int), (p.h : Int), ints (p.ss.getD i [])⟩ := by rw [hl]; exact p.s31s_at hk
  have e2 : rd_T31 (p.crop x0 y0 x1 y1).s31s (i : Int) = ⟨((x1 - x0 : Nat) : Int), ((y1 - y0 : Nat) : Int), ints (cropN (p.ss.getD i []) p.w x0 y0 x1 y1)⟩ := by
   rw [(p.crop x0 y0 x1 y1).s31s_at (by rw [p.crop_len]; exact hk), p.crop_getD hk]; rfl
  rw [e1] at hCi hci ⊢
  rw [e2]
  have hp := h.2.2.2.2 i hk
  have h6 : (p.ss.getD i []).length = p.w * p.h := hp.2.2.2.2.2.1
  have hCi : (Kd.int .u32).C W A2 (ints (p.ss.getD i [])).length (ints (p.ss.getD i [])) := hCi
  have hci : (ints (p.ss.getD i [])).length ≤ c2 := hci
  rw [ints_length] at hCi hci
  show Calls Try.prog 60 #[.agg #[.int .i64 (p.w : Int), .int .i64 (p.h : Int), .slice A2 (ints (p.ss.getD i [])).length c2], _] _ _
  rw [ints_length]
  refine (hCrop_calls p.w p.h x0 y0 x1 y1 c2 A2 (p.ss.getD i []) W (C_nats hCi) hci hx hx1 hy hy1 h6 hp.2.2.1 hp.2.2.2.1).mono ?_
  rintro e w1 ⟨v, rfl, hR, hb⟩
  exact ⟨v, rfl, R_ints hR, hb⟩
 ·rintro e w1 ⟨v, rfl, hS, hb⟩
  obtain ⟨A', c, rfl, h1, h2⟩ := Kd.S_reads hS
  rw [hn2] at h1 h2 ⊢
  obtain ⟨ap, _, e', _⟩ := Kd.C_get h2 z31 0 (by decide) (by have := h.2.1; omega)
  subst e'
  exact ⟨ap, c, rfl, h1, h2, hb⟩
end
end Go.Proofs.Ytbbebhdcfopmmaa.A
end
section
set_option linter.unusedVariables false
set_option linter.unusedSimpArgs false
namespace Go.Proofs.Ytbbebhdcfopmmaa.A

theorem filter_seg (A B : Nat) : ∀ n, (List.range n).filter (fun i => decide (A ≤ i ∧ i ≤ B)) = (List.range (min n (B + 1) - A)).map (A + ·) := by
 intro n
 induction n with
 | zero => simp
 | succ n ih =>
  rw [List.range_succ, List.filter_append, ih]
  by_cases h : A ≤ n ∧ n ≤ B
  ·rw [List.filter_cons_of_pos (by simpa using h), List.filter_nil, show min (n + 1) (B + 1) - A = (min n (B + 1) - A) + 1 by omega, List.range_succ, List.map_append]
   congr 1
   show [n] = [A + (min n (B + 1) - A)]
   congr 1
   omega
  ·rw [List.filter_cons_of_neg (by simpa using h), List.filter_nil, List.append_nil]
   congr 2
   omega
theorem range_mul (cols : Nat) : ∀ rows, List.range (cols * rows) = (List.range rows).flatMap fun r => (List.range cols).map (r * cols + ·) := by
 intro rows
 induction rows with
 | zero => rfl
 | succ r ih =>
  rw [Nat.mul_succ, List.range_succ, List.flatMap_append, ← ih, List.range_add]
  congr 1
  simp [Nat.mul_comm]
theorem flatMap_if {α : Type} (g : Nat → List α) (P : Nat → Bool) : ∀ l : List Nat, l.flatMap (fun r => if P r = true then g r else []) = (l.filter P).flatMap g := by
 intro l
 induction l with
 | nil => rfl
 | cons a l ih =>
  rw [List.flatMap_cons, ih]
  by_cases h : P a = true
  ·rw [if_pos h, List.filter_cons_of_pos h, List.flatMap_cons]
  ·rw [if_neg h, List.filter_cons_of_neg h, List.nil_append]
/-- the tiles of a rectangle -/
def tilesTo (cols A B C j : Nat) : List Nat := (List.range j).flatMap fun y => (List.range (B + 1 - A)).map fun x => (C + y) * cols + (A + x)
theorem filter_tiles {cols rows A B C D : Nat} (hc : 0 < cols) (hB : B < cols) (hD : D < rows) : (List.range (cols * rows)).filter (fun t => decide ((A ≤ t % cols ∧ t % cols ≤ B) ∧ (C ≤ t / cols ∧ t / cols ≤ D))) = tilesTo cols A B C (D + 1 - C) := by
 rw [range_mul, List.filter_flatMap]
 have e : ∀ r, ((List.range cols).map (r * cols + ·)).filter (fun t => decide ((A ≤ t % cols ∧ t % cols ≤ B) ∧ (C ≤ t / cols ∧ t / cols ≤ D))) = if decide (C ≤ r ∧ r ≤ D) = true then (List.range (B + 1 - A)).map (fun x => r * cols + (A + x)) else [] := by
  intro r
  rw [List.filter_map]
  have hm : ∀ i, i ∈ List.range cols → (r * cols + i) % cols = i ∧ (r * cols + i) / cols = r := fun i hi => by
   have hi := List.mem_range.mp hi
   rw [Nat.add_comm, Nat.add_mul_mod_self_right, Nat.mod_eq_of_lt hi, Nat.add_mul_div_right _ _ hc, Nat.div_eq_of_lt hi, Nat.zero_add]
   exact ⟨rfl, rfl⟩
  by_cases h : C ≤ r ∧ r ≤ D
  ·rw [if_pos (by simpa using h)]
   have e2 : (List.range cols).filter ((fun t => decide ((A ≤ t % cols ∧ t % cols ≤ B) ∧ (C ≤ t / cols ∧ t / cols ≤ D))) ∘ (r * cols + ·)) = (List.range cols).filter (fun i => decide (A ≤ i ∧ i ≤ B)) := by
    refine List.filter_congr fun i hi => ?_
    obtain ⟨m1, m2⟩ := hm i hi
    show decide _ = decide _
    rw [m1, m2]
    by_cases h3 : A ≤ i ∧ i ≤ B
    ·rw [decide_eq_true ⟨h3, h⟩, decide_eq_true h3]
    ·rw [decide_eq_false (fun x => h3 x.1), decide_eq_false h3]
   rw [e2, filter_seg, List.map_map, show min cols (B + 1) - A = B + 1 - A by omega]
   rfl
  ·rw [if_neg (by simpa using h)]
   have e2 : (List.range cols).filter ((fun t => decide ((A ≤ t % cols ∧ t % cols ≤ B) ∧ (C ≤ t / cols ∧ t / cols ≤ D))) ∘ (r * cols + ·)) = [] := by
    refine List.filter_eq_nil_iff.mpr fun i hi => ?_
    obtain ⟨m1, m2⟩ := hm i hi
    show ¬ decide _ = true
    rw [m1, m2, decide_eq_true_eq]
    exact fun x => h x.2
   rw [e2]
   rfl
 rw [show (fun r => ((List.range cols).map (r * cols + ·)).filter (fun t => decide ((A ≤ t % cols ∧ t % cols ≤ B) ∧ (C ≤ t / cols ∧ t / cols ≤ D)))) = (fun r => if decide (C ≤ r ∧ r ≤ D) = true then (List.range (B + 1 - A)).map (fun x => r * cols + (A + x)) else []) from funext e, flatMap_if, filter_seg, show min rows (D + 1) - C = D + 1 - C by omega, List.flatMap_map]
 rfl
section
variable {p : Pic} {S X0 Y0 X1 Y1 : Nat}
/-- the place of the whole that a place of the piece is -/
def mAt (p : Pic) (X0 Y0 cw n : Nat) : Nat := (Y0 + n / cw) * p.w + (X0 + n % cw)
theorem mAt_lt (hX : X0 < X1) (hX1 : X1 ≤ p.w) (hY : Y0 < Y1) (hY1 : Y1 ≤ p.h) {n : Nat} (hn : n < (X1 - X0) * (Y1 - Y0)) : mAt p X0 Y0 (X1 - X0) n < p.w * p.h ∧ mAt p X0 Y0 (X1 - X0) n % p.w = X0 + n % (X1 - X0) ∧ mAt p X0 Y0 (X1 - X0) n / p.w = Y0 + n / (X1 - X0) := by
 have h1 : n % (X1 - X0) < X1 - X0 := Nat.mod_lt _ (by omega)
 have h2 : n / (X1 - X0) < Y1 - Y0 := Nat.div_lt_of_lt_mul hn
 have hx : X0 + n % (X1 - X0) < p.w := by omega
 have hy : Y0 + n / (X1 - X0) < p.h := by omega
 unfold mAt
 refine ⟨idx_lt rfl hy hx, ?_, ?_⟩
 ·rw [Nat.add_comm, Nat.add_mul_mod_self_right, Nat.mod_eq_of_lt hx]
 ·rw [Nat.add_comm, Nat.add_mul_div_right _ _ (by omega), Nat.div_eq_of_lt hx, Nat.zero_add]
theorem reg_tile (h : p.ok) (h1 : 1 ≤ S) (hX : X0 < X1) (hX1 : X1 ≤ p.w) (hY : Y0 < Y1) (hY1 : Y1 ≤ p.h) {i n : Nat} {ps : List Nat} (hi : i < p.count S) (hn : n < (X1 - X0) * (Y1 - Y0)) :
    pasteVal ps (p.tile S i) (X1 - X0) (p.tw S i) (p.th S i) ((tX p.w S (i / p.ss.length) : Int) - (X0 : Int)) ((tY p.w S (i / p.ss.length) : Int) - (Y0 : Int)) n = if p.at S (mAt p X0 Y0 (X1 - X0) n) = i / p.ss.length then gt (p.ss.getD (i % p.ss.length) []) (mAt p X0 Y0 (X1 - X0) n) else gt ps n := by
 have ho := h.2.2.2.2 _ (Nat.mod_lt i h.2.1)
 have hw : 0 < p.w := ho.1
 obtain ⟨m1, m2, m3⟩ := mAt_lt (p := p) hX hX1 hY hY1 hn
 have hcx : n % (X1 - X0) < X1 - X0 := Nat.mod_lt _ (by omega)
 have hcy : n / (X1 - X0) < Y1 - Y0 := Nat.div_lt_of_lt_mul hn
 have e1 := in_tile (q := i / p.ss.length % acrossN p.w S) h1 (Nat.mod_lt (mAt p X0 Y0 (X1 - X0) n) hw)
 have e2 := in_tile (q := i / p.ss.length / acrossN p.w S) h1 (Nat.div_lt_of_lt_mul m1)
 have e3 := at_iff (p := p) (t := i / p.ss.length) h1 hw m1
 have tk := tile_ok h h1 hi
 have t1 : 0 < p.tw S i := tk.1
 rw [m2] at e1 e3
 rw [m3] at e2 e3
 unfold pasteVal colN rowN
 have d1 : tX p.w S (i / p.ss.length) = i / p.ss.length % acrossN p.w S * S := rfl
 have d2 : tY p.w S (i / p.ss.length) = i / p.ss.length / acrossN p.w S * S := rfl
 have d3 : p.tw S i = min (tX p.w S (i / p.ss.length) + S) p.w - tX p.w S (i / p.ss.length) := rfl
 have d4 : p.th S i = min (tY p.w S (i / p.ss.length) + S) p.h - tY p.w S (i / p.ss.length) := rfl
 have d5 : p.tile S i = gridTo (cropF (p.ss.getD (i % p.ss.length) []) p.w (tX p.w S (i / p.ss.length)) (tY p.w S (i / p.ss.length))) (p.tw S i) (p.tw S i * p.th S i) := rfl
 rw [← d1] at e1
 rw [← d2] at e2
 generalize tX p.w S (i / p.ss.length) = x0 at *
 generalize tY p.w S (i / p.ss.length) = y0 at *
 by_cases hat : p.at S (mAt p X0 Y0 (X1 - X0) n) = i / p.ss.length
 ·obtain ⟨a, b⟩ := e3.mp hat
  obtain ⟨a1, a2⟩ := e1.mpr a
  obtain ⟨b1, b2⟩ := e2.mpr b
  rw [if_pos hat, if_pos (by omega)]
  obtain ⟨r, hr⟩ : ∃ r, Y0 + n / (X1 - X0) = y0 + r := ⟨Y0 + n / (X1 - X0) - y0, by omega⟩
  obtain ⟨c, hc⟩ : ∃ c, X0 + n % (X1 - X0) = x0 + c := ⟨X0 + n % (X1 - X0) - x0, by omega⟩
  have c1 : c < p.tw S i := by omega
  have c2 : r < p.th S i := by omega
  rw [show ((n / (X1 - X0) : Nat) : Int) - ((y0 : Int) - (Y0 : Int)) = (r : Int) by omega, show ((n % (X1 - X0) : Nat) : Int) - ((x0 : Int) - (X0 : Int)) = (c : Int) by omega, Int.toNat_natCast, Int.toNat_natCast, d5, gt_gridTo (idx_lt rfl c2 c1), Nat.add_comm (r * p.tw S i) c, Nat.add_mul_mod_self_right, Nat.mod_eq_of_lt c1, Nat.add_mul_div_right _ _ t1, Nat.div_eq_of_lt c1, Nat.zero_add]
  unfold cropF mAt
  rw [← hr, ← hc]
 ·rw [if_neg hat, if_neg ?_]
  rintro ⟨c1, c2, c3, c4⟩
  exact hat (e3.mpr ⟨e1.mp (by omega), e2.mp (by omega)⟩)
/-- which tiles a piece has places of -/
theorem ovl_enc (h : p.ok) (h1 : 1 ≤ S) (hS : S ≤ 1024) (hX : X0 < X1) (hX1 : X1 ≤ p.w) (hY : Y0 < Y1) (hY1 : Y1 ≤ p.h) {i : Nat} (hi : i < p.count S) :
    ovl (encN p S) X0 Y0 X1 Y1 i = decide ((X0 / S ≤ i / p.ss.length % acrossN p.w S ∧ i / p.ss.length % acrossN p.w S ≤ (X1 - 1) / S) ∧ (Y0 / S ≤ i / p.ss.length / acrossN p.w S ∧ i / p.ss.length / acrossN p.w S ≤ (Y1 - 1) / S)) := by
 obtain ⟨e1, e2, e3, e4, e5, e6, e7⟩ := enc_fields h hS
 have hp := h.2.2.2.2 0 h.2.1
 have o1 : 0 < p.w := hp.1
 have o2 : 0 < p.h := hp.2.1
 obtain ⟨d1, d2, _, _⟩ := enc_dims h hS i
 have ht : i / p.ss.length < tilesN p.w p.h S := Nat.div_lt_of_lt_mul (by unfold Pic.count at hi; rw [Nat.mul_comm]; exact hi)
 have hxl := tX_lt (i / p.ss.length) o1 h1
 have hyl := tY_lt o2 h1 ht
 have q1 : pX1 (encN p S) i = min (tX p.w S (i / p.ss.length) + S) p.w := by unfold pX1; rw [d1, e3, e5]
 have q2 : pY1 (encN p S) i = min (tY p.w S (i / p.ss.length) + S) p.h := by unfold pY1; rw [d2, e4, e5]
 unfold ovl
 rw [d1, d2, q1, q2]
 have key : ∀ (q L R W : Nat), q * S < W → L < R → R ≤ W → (max (q * S) L < min (min (q * S + S) W) R ↔ L / S ≤ q ∧ q ≤ (R - 1) / S) := by
  intro q L R W hq hLR hRW
  have k1 : L / S ≤ q ↔ L < q * S + S := by
   rw [← Nat.succ_mul, ← Nat.div_lt_iff_lt_mul (by omega)]
   omega
  have k2 : q ≤ (R - 1) / S ↔ q * S ≤ R - 1 := Nat.le_div_iff_mul_le (by omega)
  rw [k1, k2]
  omega
 have kx := key (i / p.ss.length % acrossN p.w S) X0 X1 p.w hxl hX hX1
 have ky := key (i / p.ss.length / acrossN p.w S) Y0 Y1 p.h hyl hY hY1
 have d1' : tX p.w S (i / p.ss.length) = i / p.ss.length % acrossN p.w S * S := rfl
 have d2' : tY p.w S (i / p.ss.length) = i / p.ss.length / acrossN p.w S * S := rfl
 rw [d1', d2', Bool.eq_iff_iff, Bool.and_eq_true, decide_eq_true_eq, decide_eq_true_eq, decide_eq_true_eq, kx, ky]
theorem regLaid_set (b : List Nat) {i k : Nat} (hk : k < hPl b) : (regLaid b X0 Y0 X1 Y1 (i + 1)).getD k [] = if ovl b X0 Y0 X1 Y1 i = true ∧ i % hPl b = k then pasteN ((regLaid b X0 Y0 X1 Y1 i).getD k []) (partV b i) (X1 - X0) (pDw b i) (pDh b i) ((pX0 b i : Int) - (X0 : Int)) ((pY0 b i : Int) - (Y0 : Int)) else (regLaid b X0 Y0 X1 Y1 i).getD k [] := by
 have hl := regLaid_len b X0 Y0 X1 Y1 i
 rw [regLaid]
 by_cases ho : ovl b X0 Y0 X1 Y1 i = true
 ·rw [if_pos ho, List.getD_eq_getElem?_getD, List.getElem?_set]
  by_cases h1 : i % hPl b = k
  ·rw [if_pos h1, if_pos (by rw [hl, h1]; exact hk), Option.getD_some, if_pos ⟨ho, h1⟩, h1]
  ·rw [if_neg h1, if_neg (fun x => h1 x.2), ← List.getD_eq_getElem?_getD]
 ·rw [if_neg ho, if_neg (fun x => ho x.1)]
theorem regLaid_enc (h : p.ok) (h1 : 1 ≤ S) (hS : S ≤ 1024) (hX : X0 < X1) (hX1 : X1 ≤ p.w) (hY : Y0 < Y1) (hY1 : Y1 ≤ p.h) : ∀ i, i ≤ p.count S → ∀ k, k < p.ss.length → ∀ n, n < (X1 - X0) * (Y1 - Y0) → gt ((regLaid (encN p S) X0 Y0 X1 Y1 i).getD k []) n = if p.at S (mAt p X0 Y0 (X1 - X0) n) * p.ss.length + k < i then gt (p.ss.getD k []) (mAt p X0 Y0 (X1 - X0) n) else 0 := by
 obtain ⟨e1, e2, e3, e4, e5, e6, e7⟩ := enc_fields h hS
 intro i
 induction i with
 | zero =>
  intro _ k hk n hn
  rw [if_neg (by omega), regLaid, e2, List.getD_eq_getElem?_getD, List.getElem?_replicate, if_pos hk, Option.getD_some, gt_replicate]
 | succ i ih =>
  intro hi k hk n hn
  have hI := ih (by omega) k hk n hn
  obtain ⟨d1, d2, d3, d4⟩ := enc_dims (p := p) h hS i
  rw [regLaid_set _ (by rw [e2]; exact hk), e2]
  have hdm := Nat.div_add_mod i p.ss.length
  by_cases hik : ovl (encN p S) X0 Y0 X1 Y1 i = true ∧ i % p.ss.length = k
  ·rw [if_pos hik, d1, d2, d3, d4, enc_partV h h1 hS (by omega), gt_pasteN (by rw [regLaid_pl i k (by rw [e2]; exact hk)]; exact hn), reg_tile h h1 hX hX1 hY hY1 (by omega) hn, hik.2, hI]
   have hik := hik.2
   rw [Nat.mul_comm] at hdm
   by_cases ha : p.at S (mAt p X0 Y0 (X1 - X0) n) = i / p.ss.length
   ·rw [if_pos ha, if_pos (by rw [ha]; omega)]
   ·rw [if_neg ha]
    have hne : p.at S (mAt p X0 Y0 (X1 - X0) n) * p.ss.length + k ≠ i := by
     intro hh
     apply ha
     rw [← hh, Nat.add_comm, Nat.add_mul_div_right _ _ (by omega), Nat.div_eq_of_lt hk, Nat.zero_add]
    by_cases hlt : p.at S (mAt p X0 Y0 (X1 - X0) n) * p.ss.length + k < i
    ·rw [if_pos hlt, if_pos (by omega)]
    ·rw [if_neg hlt, if_neg (by omega)]
  ·rw [if_neg hik, hI]
   have hne : p.at S (mAt p X0 Y0 (X1 - X0) n) * p.ss.length + k ≠ i := by
    intro hh
    apply hik
    have q1 : i % p.ss.length = k := by rw [← hh, Nat.add_comm, Nat.add_mul_mod_self_right, Nat.mod_eq_of_lt hk]
    have q2 : p.at S (mAt p X0 Y0 (X1 - X0) n) = i / p.ss.length := by rw [← hh, Nat.add_comm, Nat.add_mul_div_right _ _ (by omega), Nat.div_eq_of_lt hk, Nat.zero_add]
    refine ⟨?_, q1⟩
    rw [ovl_enc h h1 hS hX hX1 hY hY1 (by omega), decide_eq_true_eq]
    have ho := h.2.2.2.2 0 h.2.1
    obtain ⟨m1, m2, m3⟩ := mAt_lt (p := p) hX hX1 hY hY1 hn
    obtain ⟨a, b⟩ := (at_iff (p := p) (t := i / p.ss.length) h1 ho.1 m1).mp q2
    rw [m2] at a
    rw [m3] at b
    have hcx : n % (X1 - X0) < X1 - X0 := Nat.mod_lt _ (by omega)
    have hcy : n / (X1 - X0) < Y1 - Y0 := Nat.div_lt_of_lt_mul hn
    rw [← a, ← b]
    generalize n % (X1 - X0) = na at *
    generalize n / (X1 - X0) = nb at *
    exact ⟨⟨Nat.div_le_div_right (by omega), Nat.div_le_div_right (by omega)⟩, Nat.div_le_div_right (by omega), Nat.div_le_div_right (by omega)⟩
   by_cases hlt : p.at S (mAt p X0 Y0 (X1 - X0) n) * p.ss.length + k < i
   ·rw [if_pos hlt, if_pos (by omega)]
   ·rw [if_neg hlt, if_neg (by omega)]
/-- a piece is the crop of the whole -/
theorem reg_crop (h : p.ok) (h1 : 1 ≤ S) (hS : S ≤ 1024) (hX : X0 < X1) (hX1 : X1 ≤ p.w) (hY : Y0 < Y1) (hY1 : Y1 ≤ p.h) : regLaid (encN p S) X0 Y0 X1 Y1 (hK (encN p S)) = (p.crop X0 Y0 X1 Y1).ss := by
 obtain ⟨e1, e2, e3, e4, e5, e6, e7⟩ := enc_fields h hS
 refine ext_getD (by rw [regLaid_len, e2, p.crop_len]) fun k hk => ?_
 rw [regLaid_len, e2] at hk
 have ho := h.2.2.2.2 k hk
 have hl2 := regLaid_pl (b := encN p S) (X0 := X0) (Y0 := Y0) (X1 := X1) (Y1 := Y1) (hK (encN p S)) k (by rw [e2]; exact hk)
 rw [p.crop_getD hk]
 refine eq_of_gt (by rw [hl2]; unfold cropN; rw [gridTo_length]) fun n hn => ?_
 rw [hl2] at hn
 obtain ⟨m1, m2, m3⟩ := mAt_lt (p := p) hX hX1 hY hY1 hn
 rw [e6, regLaid_enc h h1 hS hX hX1 hY hY1 _ (Nat.le_refl _) k hk n hn, if_pos (show p.at S (mAt p X0 Y0 (X1 - X0) n) * p.ss.length + k < p.count S from idx_lt (Nat.mul_comm _ _) (at_lt h1 ho.1 m1) hk)]
 unfold cropN
 rw [gt_gridTo hn]
 rfl
theorem regRead_enc (h : p.ok) (h1 : 1 ≤ S) (hS : S ≤ 1024) (hX : X0 < X1) (hX1 : X1 ≤ p.w) (hY : Y0 < Y1) (hY1 : Y1 ≤ p.h) : regRead (encN p S) X0 Y0 X1 Y1 (hK (encN p S)) = tilesTo (acrossN p.w S) (X0 / S) ((X1 - 1) / S) (Y0 / S) ((Y1 - 1) / S + 1 - Y0 / S) := by
 obtain ⟨e1, e2, e3, e4, e5, e6, e7⟩ := enc_fields h hS
 have ho := h.2.2.2.2 0 h.2.1
 have o1 : 0 < p.w := ho.1
 have o2 : 0 < p.h := ho.2.1
 have hn0 := h.2.1
 rw [← filter_tiles (rows := acrossN p.h S) (acrossN_pos o1 h1) (div_acrossN h1 (by omega)) (div_acrossN h1 (by omega))]
 show _ = (List.range (tilesN p.w p.h S)).filter _
 have key : ∀ T, T ≤ tilesN p.w p.h S → ∀ r, r ≤ p.ss.length → (T < tilesN p.w p.h S ∨ r = 0) → regRead (encN p S) X0 Y0 X1 Y1 (T * p.ss.length + r) = (List.range (T + if r = 0 then 0 else 1)).filter (fun t => decide ((X0 / S ≤ t % acrossN p.w S ∧ t % acrossN p.w S ≤ (X1 - 1) / S) ∧ (Y0 / S ≤ t / acrossN p.w S ∧ t / acrossN p.w S ≤ (Y1 - 1) / S))) := by
  intro T
  induction T with
  | zero =>
   intro _ r
   induction r with
   | zero => intro _ _; rw [Nat.zero_mul]; rfl
   | succ r ihr =>
    intro hr hT
    have hT : 0 < tilesN p.w p.h S := by omega
    have hcl : r < p.count S := by
     have : (1 : Nat) * p.ss.length ≤ tilesN p.w p.h S * p.ss.length := Nat.mul_le_mul_right _ hT
     unfold Pic.count; omega
    have hi := ihr (by omega) (.inl hT)
    rw [Nat.zero_mul, Nat.zero_add] at hi ⊢
    have em : r % p.ss.length = r := Nat.mod_eq_of_lt (by omega)
    have ed : r / p.ss.length = 0 := Nat.div_eq_of_lt (by omega)
    rw [regRead, e2, em, ed, hi, ovl_enc h h1 hS hX hX1 hY hY1 hcl, ed]
    by_cases h0 : r = 0
    ·subst h0
     simp only [Nat.zero_add, if_true, List.range_zero, List.filter_nil, List.nil_append, and_true]
     show _ = List.filter _ (List.range 1)
     rw [show List.range 1 = [0] from rfl, List.filter_cons]
     simp only [List.filter_nil]
    ·rw [if_neg h0, if_neg (fun x => h0 x.2), if_neg (by omega)]
  | succ T ihT =>
   intro hTle r
   induction r with
   | zero =>
    intro _ _
    have hi := ihT (by omega) p.ss.length (Nat.le_refl _) (.inl (by omega))
    rw [if_neg (by omega)] at hi
    rw [if_pos rfl, Nat.add_zero, Nat.add_zero, Nat.succ_mul]
    exact hi
   | succ r ihr =>
    intro hr hT
    have hT : T + 1 < tilesN p.w p.h S := by omega
    have hcl : (T + 1) * p.ss.length + r < p.count S := by
     have : (T + 1 + 1) * p.ss.length ≤ tilesN p.w p.h S * p.ss.length := Nat.mul_le_mul_right _ hT
     rw [Nat.succ_mul] at this
     unfold Pic.count; omega
    have hi := ihr (by omega) (.inl hT)
    have em : ((T + 1) * p.ss.length + r) % p.ss.length = r := by rw [Nat.add_comm, Nat.add_mul_mod_self_right, Nat.mod_eq_of_lt (by omega)]
    have ed : ((T + 1) * p.ss.length + r) / p.ss.length = T + 1 := by rw [Nat.add_comm, Nat.add_mul_div_right _ _ (by omega), Nat.div_eq_of_lt (by omega), Nat.zero_add]
    rw [← Nat.add_assoc, regRead, e2, em, ed, hi, ovl_enc h h1 hS hX hX1 hY hY1 hcl, ed, if_neg (Nat.succ_ne_zero r)]
    by_cases h0 : r = 0
    ·subst h0
     simp only [if_true, Nat.add_zero, and_true]
     rw [List.range_succ (n := T + 1), List.filter_append, List.filter_cons]
     simp only [List.filter_nil]
     split <;> simp_all
    ·rw [if_neg h0, if_neg (fun x => h0 x.2)]
 have := key (tilesN p.w p.h S) (Nat.le_refl _) 0 (Nat.zero_le _) (.inr rfl)
 rw [if_pos rfl, Nat.add_zero, Nat.add_zero] at this
 rw [e6]
 exact this
theorem regE_enc (h : p.ok) (h1 : 1 ≤ S) (hS : S ≤ 1024) (hl : (encN p S).length ≤ 4194304) (hX : X0 < X1) (hX1 : X1 ≤ p.w) (hY : Y0 < Y1) (hY1 : Y1 ≤ p.h) : regionE (encN p S) (X0 : Int) (Y0 : Int) (X1 : Int) (Y1 : Int) = 0 := by
 obtain ⟨e1, e2, e3, e4, e5, e6, e7⟩ := enc_fields h hS
 have hw : withinB (encN p S) (X0 : Int) (Y0 : Int) (X1 : Int) (Y1 : Int) = true := by
  unfold withinB
  rw [e3, e4]
  simp only [Bool.and_eq_true, decide_eq_true_eq]
  omega
 have hE : ∀ d i, i + d = p.count S → regE (encN p S) X0 Y0 X1 Y1 d i = 0 := by
  intro d
  induction d with
  | zero => intro i _; rfl
  | succ d ih =>
   intro i hi
   rw [regE, if_neg (fun x => x.2 (enc_partE h h1 hS (by omega)))]
   exact ih (i + 1) (by omega)
 unfold regionE
 rw [enc_open h h1 hS hl, hw, e6, enc_partPos h hS _ (Nat.le_refl _), enc_len]
 simp only [Int.toNat_natCast]
 rw [if_neg (by decide), if_neg (by decide), if_neg (by omega), if_neg (by omega)]
 exact hE _ 0 (by omega)
end
end Go.Proofs.Ytbbebhdcfopmmaa.A
end
section
set_option linter.unusedVariables false
set_option linter.unusedSimpArgs false
namespace Go.Proofs.Ytbbebhdcfopmmaa.A
open Go.RowKit Go.ChangeShapes Go.WideShapes Go.ChangeAt Go.Proofs.YtbbebhdcfopmmaaW.PrintWords Go.Proofs.YtbbebhdcfopmmaaW.PrintLast Go.Proofs.YtbbebhdcfopmmaaW.PrintMore Go.Proofs.Ytbbebhdcfopmmaa.PCodecNames

theorem bulk_pos {H : Type} (d : DataW H) : 1 ≤ Rows.uptoBulk d := by
 cases d with
 | lit l => cases l <;> simp [Rows.uptoBulk]
 | _ => simp [Rows.uptoBulk]
theorem bulkAll_len {H : Type} (l : List (DataW H)) : l.length ≤ Rows.uptoBulkAll l := by
 induction l with
 | nil => simp
 | cons d r ih =>
  have := bulk_pos d
  simp only [Rows.uptoBulkAll, List.length_cons]
  omega
theorem list_choose {α : Type} {P : Nat → α → Prop} : ∀ (n : Nat), (∀ i, i < n → ∃ a, P i a) → ∃ l : List α, l.length = n ∧ ∀ i a, l[i]? = some a → P i a := by
 intro n
 induction n with
 | zero => intro _; exact ⟨[], rfl, fun i a h => by simp at h⟩
 | succ n ih =>
  intro h
  obtain ⟨l, hl, hp⟩ := ih (fun i hi => h i (by omega))
  obtain ⟨a, ha⟩ := h n (by omega)
  refine ⟨l ++ [a], by simp [hl], fun i b hb => ?_⟩
  by_cases hi : i < n
  ·rw [List.getElem?_append_left (by omega)] at hb; exact hp i b hb
  ·rw [List.getElem?_append_right (by omega)] at hb
   have : i - l.length = 0 := by
    have := (List.getElem?_eq_some_iff.1 hb).1
    simp at this; omega
   rw [this] at hb
   simp at hb
   subst hb
   rw [show i = n by omega]; exact ha
theorem bulkAll_append {H : Type} (a b : List (DataW H)) : Rows.uptoBulkAll (a ++ b) = Rows.uptoBulkAll a + Rows.uptoBulkAll b := by
 induction a with
 | nil => simp [Rows.uptoBulkAll]
 | cons d r ih => simp only [List.cons_append, Rows.uptoBulkAll, ih]; omega
theorem cells3 : Try.prog.cellsOf 3 = 1 := by kernel_rfl
theorem cells29 : Try.prog.cellsOf 29 = 1 := by kernel_rfl
theorem cells31 : Try.prog.cellsOf 31 = 3 := by kernel_rfl
section
variable {H : Type} {enc : TypeId × Value → H} {W : World}
theorem plane_open {fuel : Nat} {cs : List Value} {y : DataW H × List MemPlace} (h : DataW.trod enc Try.prog W 0 (fun _ => true) true fuel 31 cs = some y) :
    ∃ (x : S31) (A2 : Option Addr) (c2 : Nat), cs = [.int .i64 x.f0, .int .i64 x.f1, .slice A2 x.f2.length c2] ∧ x.f2.length ≤ c2 ∧ (Kd.int .u32).C W A2 x.f2.length x.f2 ∧ (∀ z ∈ x.f2, 0 ≤ z ∧ z < 4294967296) ∧ 1 + x.f2.length ≤ Rows.uptoBulk y.1 := by
 obtain ⟨y0, y1, y2, n, rfl, hlen, h0, h1, h2⟩ := Go.Deep.trod_struct3 Try.underlying31 h
 simp only at h0 h1 h2
 rw [cells3] at h0 h1
 rw [cells29] at h2
 have hc3 : cs.length = 3 := hlen.trans cells31
 obtain ⟨v0, v1, v2, rfl⟩ : ∃ a b c, cs = [a, b, c] := by
  match cs, hc3 with
  | [a, b, c], _ => exact ⟨a, b, c, rfl⟩
 have h0 : DataW.trod enc Try.prog W 0 (fun _ => true) true n 3 [v0] = some y0 := h0
 have h1 : DataW.trod enc Try.prog W 0 (fun _ => true) true n 3 [v1] = some y1 := h1
 have h2 : DataW.trod enc Try.prog W 0 (fun _ => true) true n 29 [v2] = some y2 := h2
 obtain ⟨s, e0, rfl, _⟩ := DataW.trod_int Try.underlying3 h0
 obtain ⟨t, e1, rfl, _⟩ := DataW.trod_int Try.underlying3 h1
 injection e0 with e0 _
 injection e1 with e1 _
 subst e0 e1
 rcases open_ints Try.underlying29 Try.underlying24 (by kernel_rfl) h2 with ⟨hcs, hx⟩ | ⟨x, len, cap, zs, hcs, _, hl, hm, hz, hx, hcell, hwz⟩
 ·injection hcs with hcs _
  subst hcs
  refine ⟨⟨s, t, []⟩, none, 0, rfl, Nat.le_refl _, ?_, fun z hz => (by cases hz), ?_⟩
  ·obtain ⟨xs, hxs, hC, _, _⟩ := natRow (k := .u32) (m := 4294967296) (by omega) (fun _ h => wf32 h) (w := W) (a := none) (len := 0) (cap := 0) (zs := []) (.inl ⟨rfl, rfl, rfl, rfl⟩)
   obtain rfl : xs = [] := List.eq_nil_of_length_eq_zero hxs.symm
   exact C_ints hC
  ·have := bulk_pos (DataW.agg [(DataW.lit (.int .i64 s)), DataW.lit (.int .i64 t), y2.1])
   simpa using this
 ·injection hcs with hcs _
  subst hcs
  have hz' : zs.length = cap := by simpa using hz
  obtain ⟨xs, rfl, hC, hc, hg⟩ := natRow (k := .u32) (m := 4294967296) (by omega) (fun _ h => wf32 h) (w := W) (a := some x) (len := len) (cap := cap) (zs := zs) (.inr ⟨_, rfl, hl, hm, hz', hcell, hwz⟩)
  refine ⟨⟨s, t, ints xs⟩, some x, cap, by rw [ints_length], by show (ints xs).length ≤ cap; rw [ints_length]; exact hc, by show (Kd.int .u32).C W (some x) (ints xs).length (ints xs); rw [ints_length]; exact C_ints hC, fun z hz => ?_, ?_⟩
  ·have hz : z ∈ ints xs := hz
   unfold ints at hz
   obtain ⟨a, ha, rfl⟩ := List.mem_map.mp hz
   have := mem_lt_of hg a ha
   omega
  ·show 1 + (ints xs).length ≤ _
   rw [ints_length, hx]
   have h3 := bulkAll_len (lits (H := H) .u32 (zs.take xs.length))
   have h4 : (lits (H := H) .u32 (zs.take xs.length)).length = xs.length := by simp [lits]; omega
   simp only [Rows.uptoBulk, Rows.uptoBulkAll]
   omega
theorem pic_open {fuel : Nat} {a : Option Addr} {len cap : Nat} {y : DataW H × List MemPlace} (h : DataW.trod enc Try.prog W 0 (fun _ => true) true fuel 45 [.slice a len cap] = some y) :
    ∃ l : List S31, l.length = len ∧ len ≤ cap ∧ Kd.C k31 W a len l ∧ (∀ x ∈ l, ∀ z ∈ x.f2, 0 ≤ z ∧ z < 4294967296) ∧ fewTo l len ≤ Rows.uptoBulk y.1 ∧ (∀ i : Nat, i < len → (rd_T31 l (i : Int)).f2.length ≤ Rows.uptoBulk y.1) := by
 rcases Go.Deep.open_slice Try.underlying45 h with ⟨hcs, rfl⟩ | ⟨ad, len', cap', m, n, D, Pl, hcs, _, hl, hm, rfl, rfl, hel⟩
 ·injection hcs with hcs _
  injection hcs with e1 e2 e3
  subst e1 e2 e3
  exact ⟨[], rfl, Nat.le_refl _, ⟨rfl, by decide, fun h => absurd h (by decide)⟩, fun x hx => (by cases hx), Nat.zero_le _, fun i hi => absurd hi (by omega)⟩
 injection hcs with hcs _
 injection hcs with e1 e2 e3
 subst e1 e2 e3
 obtain ⟨l, hll, hp⟩ := list_choose (α := S31) (P := fun i x => ∃ (cs' : List Value) (A2 : Option Addr) (c2 : Nat), W.cells? 0 (ad.add (i * 3)) 3 = some cs' ∧ cs' = [.int .i64 x.f0, .int .i64 x.f1, .slice A2 x.f2.length c2] ∧ x.f2.length ≤ c2 ∧ (Kd.int .u32).C W A2 x.f2.length x.f2 ∧ (∀ z ∈ x.f2, 0 ≤ z ∧ z < 4294967296) ∧ 1 + x.f2.length ≤ Rows.uptoBulk (D i)) len (fun i hi => by
  obtain ⟨cs', h1, h2⟩ := hel i (by show i < cap; omega)
  rw [cells31] at h1
  obtain ⟨x, A2, c2, h3, h4⟩ := plane_open h2
  exact ⟨x, cs', A2, c2, h1, h3, h4⟩)
 have hF : ∀ i, i ≤ len → fewTo l i + i ≤ len + Rows.uptoBulkAll ((List.range i).map D) := by
  intro i
  induction i with
  | zero => intro _; show l.length + 0 ≤ _; omega
  | succ i ih =>
   intro hi
   obtain ⟨_, _, _, _, _, _, _, _, hb⟩ := hp i (rd_T31 l (i : Int)) (by
    unfold rd_T31
    rw [Int.toNat_natCast, List.getD_eq_getElem?_getD, List.getElem?_eq_getElem (by omega)]; rfl)
   have := ih (by omega)
   rw [List.range_succ, List.map_append, bulkAll_append]
   simp only [List.map_cons, List.map_nil, Rows.uptoBulkAll, fewTo]
   omega
 have hT : fewTo l len ≤ Rows.uptoBulk (DataW.slice (List.map D (List.range len)) (List.map (fun j => D (len + j)) (List.range (cap - len)))) := by
  have := hF len (Nat.le_refl _)
  simp only [Rows.uptoBulk]
  omega
 refine ⟨l, hll, hl, ⟨hll, (by have h9 : cap ≤ 9223372036854775807 := hm; omega), fun _ => ⟨ad, rfl, fun j p hj => ?_⟩⟩, fun x hx => ?_, hT, fun i hi => ?_⟩
 ·obtain ⟨cs', A2, c2, h1, rfl, h3, h4, _, _⟩ := hp j p hj
  have hc := (World.cells?_some h1).2.2
  refine ⟨_, rfl, k31_mk W p h3 h4, fun i u hu => ?_⟩
  match i, hu with
  | 0, hu => exact (hc 0 (by omega)).trans hu
  | 1, hu => exact ((congrArg W.cell? (Addr.add_add ad (j * 3) 1).symm).trans (hc 1 (by omega))).trans hu
  | 2, hu => exact ((congrArg W.cell? (Addr.add_add ad (j * 3) 2).symm).trans (hc 2 (by omega))).trans hu
 ·obtain ⟨i, hi⟩ := List.getElem?_of_mem hx
  obtain ⟨_, _, _, _, _, _, _, h5, _⟩ := hp i x hi
  exact h5
 ·refine Nat.le_trans ?_ hT
  refine Nat.le_trans ?_ (fewTo_le l (show i + 1 ≤ len by omega))
  exact Nat.le_add_left _ _
end
theorem encE_zero {sp sd : Int} {l : List S31} (h : encE sp l sd = 0) : picE sp l = 0 ∧ 1 ≤ sd ∧ sd ≤ 1024 := by
 unfold encE at h
 by_cases h1 : picE sp l = 0
 ·rw [if_neg (fun hh => hh h1)] at h
  by_cases h2 : sd < 1 ∨ 1024 < sd
  ·rw [if_pos h2] at h; exact absurd h (by decide)
  ·exact ⟨h1, by omega, by omega⟩
 ·rw [if_pos h1] at h; exact absurd h h1
end Go.Proofs.Ytbbebhdcfopmmaa.A
end
section
set_option linter.unusedVariables false
set_option linter.unusedSimpArgs false
namespace Go.Proofs.Ytbbebhdcfopmmaa.A
open Go.RowKit Go.Proofs.YtbbebhdcfopmmaaW.PrintWords Go.Proofs.YtbbebhdcfopmmaaW.PrintLast Go.Proofs.YtbbebhdcfopmmaaW.PrintMore Go.Proofs.Ytbbebhdcfopmmaa.PCodecNames

theorem mul_facts {a b c : Nat} (h : a * b = c) (hc : c < 4611686018427387904) : wrap64 ((a : Int) * (b : Int)) = (c : Int) ∧ IntKind.i64.wrap ((a : Int) * (b : Int)) = (c : Int) := by
 have e : (a : Int) * (b : Int) = (c : Int) := by rw [← h, Int.natCast_mul]
 rw [e]
 exact ⟨by unfold wrap64; omega, by rw [IntKind.wrap_i64]; omega⟩
end Go.Proofs.Ytbbebhdcfopmmaa.A
end
section
set_option linter.unusedVariables false
set_option linter.unusedSimpArgs false
namespace Go.Proofs.Ytbbebhdcfopmmaa.A
open Go.RowKit Go.Proofs.YtbbebhdcfopmmaaW.PrintWords Go.Proofs.YtbbebhdcfopmmaaW.PrintLast Go.Proofs.YtbbebhdcfopmmaaW.PrintMore Go.Proofs.Ytbbebhdcfopmmaa.PCodecNames

def withinZ (W H x0 y0 x1 y1 : Int) : Bool := decide (0 ≤ x0) && (decide (x0 < x1) && (decide (x1 ≤ W) && (decide (0 ≤ y0) && (decide (y0 < y1) && decide (y1 ≤ H)))))
set_option maxHeartbeats 8000000 in
set_option maxRecDepth 100000 in
theorem Within_calls (W H x0 y0 x1 y1 : Int) (w : World) {z : Bool} (hz : withinZ W H x0 y0 x1 y1 = z) :
    Calls Try.prog 42 #[.int .i64 W, .int .i64 H, .agg #[.int .i64 x0, .int .i64 y0, .int .i64 x1, .int .i64 y1]] w fun e w' => e = .returned (.bool z) ∧ Below w.heap.size w w' := by
 subst hz
 have hu73 := Try.underlying73
 rcases h1 : decide (0 ≤ x0) with _ | _
 ·have hE : withinZ W H x0 y0 x1 y1 = false := by unfold withinZ; rw [h1]; rfl
  rw [hE]
  clear hE
  go_enter Try.func42, Try.ntmps42
  go_wp2_with (((with_reducible refine gate_dst (N := 5) rfl ?_); refine box_event ?hg (N := 5) ?hd (cs := #[.int .i64 x0, .int .i64 y0, .int .i64 x1, .int .i64 y1]) (t := 73) ?hr ?_; (case hd => rfl); (case hg => rfl); (case hr => first | (go_simp; done) | (go_simp; rfl)); intro gR hg_ w1 hm_ hb_; have B1 := Aside0.mk (hb_); have r0 := (blk_cell hm_ 0).trans rfl; have r1 := (blk_cell hm_ 1).trans rfl; have r2 := (blk_cell hm_ 2).trans rfl; have r3 := (blk_cell hm_ 3).trans rfl; clear hb_ hg_))
  go_ret
  exact ⟨rfl, B1.out⟩
 ·skip
  rcases h2 : decide (x0 < x1) with _ | _
  ·have hE : withinZ W H x0 y0 x1 y1 = false := by unfold withinZ; rw [h1, h2]; rfl
   rw [hE]
   clear hE
   go_enter Try.func42, Try.ntmps42
   go_wp2_with (((with_reducible refine gate_dst (N := 5) rfl ?_); refine box_event ?hg (N := 5) ?hd (cs := #[.int .i64 x0, .int .i64 y0, .int .i64 x1, .int .i64 y1]) (t := 73) ?hr ?_; (case hd => rfl); (case hg => rfl); (case hr => first | (go_simp; done) | (go_simp; rfl)); intro gR hg_ w1 hm_ hb_; have B1 := Aside0.mk (hb_); have r0 := (blk_cell hm_ 0).trans rfl; have r1 := (blk_cell hm_ 1).trans rfl; have r2 := (blk_cell hm_ 2).trans rfl; have r3 := (blk_cell hm_ 3).trans rfl; clear hb_ hg_))
   go_ret
   exact ⟨rfl, B1.out⟩
  ·skip
   rcases h3 : decide (x1 ≤ W) with _ | _
   ·have hE : withinZ W H x0 y0 x1 y1 = false := by unfold withinZ; rw [h1, h2, h3]; rfl
    rw [hE]
    clear hE
    go_enter Try.func42, Try.ntmps42
    go_wp2_with (((with_reducible refine gate_dst (N := 5) rfl ?_); refine box_event ?hg (N := 5) ?hd (cs := #[.int .i64 x0, .int .i64 y0, .int .i64 x1, .int .i64 y1]) (t := 73) ?hr ?_; (case hd => rfl); (case hg => rfl); (case hr => first | (go_simp; done) | (go_simp; rfl)); intro gR hg_ w1 hm_ hb_; have B1 := Aside0.mk (hb_); have r0 := (blk_cell hm_ 0).trans rfl; have r1 := (blk_cell hm_ 1).trans rfl; have r2 := (blk_cell hm_ 2).trans rfl; have r3 := (blk_cell hm_ 3).trans rfl; clear hb_ hg_))
    go_ret
    exact ⟨rfl, B1.out⟩
   ·skip
    rcases h4 : decide (0 ≤ y0) with _ | _
    ·have hE : withinZ W H x0 y0 x1 y1 = false := by unfold withinZ; rw [h1, h2, h3, h4]; rfl
     rw [hE]
     clear hE
     go_enter Try.func42, Try.ntmps42
     go_wp2_with (((with_reducible refine gate_dst (N := 5) rfl ?_); refine box_event ?hg (N := 5) ?hd (cs := #[.int .i64 x0, .int .i64 y0, .int .i64 x1, .int .i64 y1]) (t := 73) ?hr ?_; (case hd => rfl); (case hg => rfl); (case hr => first | (go_simp; done) | (go_simp; rfl)); intro gR hg_ w1 hm_ hb_; have B1 := Aside0.mk (hb_); have r0 := (blk_cell hm_ 0).trans rfl; have r1 := (blk_cell hm_ 1).trans rfl; have r2 := (blk_cell hm_ 2).trans rfl; have r3 := (blk_cell hm_ 3).trans rfl; clear hb_ hg_))
     go_ret
     exact ⟨rfl, B1.out⟩
    ·skip
     rcases h5 : decide (y0 < y1) with _ | _
     ·have hE : withinZ W H x0 y0 x1 y1 = false := by unfold withinZ; rw [h1, h2, h3, h4, h5]; rfl
      rw [hE]
      clear hE
      go_enter Try.func42, Try.ntmps42
      go_wp2_with (((with_reducible refine gate_dst (N := 5) rfl ?_); refine box_event ?hg (N := 5) ?hd (cs := #[.int .i64 x0, .int .i64 y0, .int .i64 x1, .int .i64 y1]) (t := 73) ?hr ?_; (case hd => rfl); (case hg => rfl); (case hr => first | (go_simp; done) | (go_simp; rfl)); intro gR hg_ w1 hm_ hb_; have B1 := Aside0.mk (hb_); have r0 := (blk_cell hm_ 0).trans rfl; have r1 := (blk_cell hm_ 1).trans rfl; have r2 := (blk_cell hm_ 2).trans rfl; have r3 := (blk_cell hm_ 3).trans rfl; clear hb_ hg_))
      go_ret
      exact ⟨rfl, B1.out⟩
     ·skip
      rcases h6 : decide (y1 ≤ H) with _ | _
      ·have hE : withinZ W H x0 y0 x1 y1 = false := by unfold withinZ; rw [h1, h2, h3, h4, h5, h6]; rfl
       rw [hE]
       clear hE
       go_enter Try.func42, Try.ntmps42
       go_wp2_with (((with_reducible refine gate_dst (N := 5) rfl ?_); refine box_event ?hg (N := 5) ?hd (cs := #[.int .i64 x0, .int .i64 y0, .int .i64 x1, .int .i64 y1]) (t := 73) ?hr ?_; (case hd => rfl); (case hg => rfl); (case hr => first | (go_simp; done) | (go_simp; rfl)); intro gR hg_ w1 hm_ hb_; have B1 := Aside0.mk (hb_); have r0 := (blk_cell hm_ 0).trans rfl; have r1 := (blk_cell hm_ 1).trans rfl; have r2 := (blk_cell hm_ 2).trans rfl; have r3 := (blk_cell hm_ 3).trans rfl; clear hb_ hg_))
       go_ret
       exact ⟨rfl, B1.out⟩
      ·have hE : withinZ W H x0 y0 x1 y1 = true := by unfold withinZ; rw [h1, h2, h3, h4, h5, h6]; rfl
       rw [hE]
       clear hE
       go_enter Try.func42, Try.ntmps42
       go_wp2_with (((with_reducible refine gate_dst (N := 5) rfl ?_); refine box_event ?hg (N := 5) ?hd (cs := #[.int .i64 x0, .int .i64 y0, .int .i64 x1, .int .i64 y1]) (t := 73) ?hr ?_; (case hd => rfl); (case hg => rfl); (case hr => first | (go_simp; done) | (go_simp; rfl)); intro gR hg_ w1 hm_ hb_; have B1 := Aside0.mk (hb_); have r0 := (blk_cell hm_ 0).trans rfl; have r1 := (blk_cell hm_ 1).trans rfl; have r2 := (blk_cell hm_ 2).trans rfl; have r3 := (blk_cell hm_ 3).trans rfl; clear hb_ hg_))
       go_ret
       exact ⟨rfl, B1.out⟩
theorem Region_enc {p : Pic} {S N n m cap : Nat} {A : Option Addr} {b : List Nat} {w : World} {X0 Y0 X1 Y1 : Nat} {l2 : List S31} {ts : List Nat} (h : p.ok) (h1 : 1 ≤ S) (hS : S ≤ 1024) (hb : encN p S = b) (hN : b.length = N) (hn : p.ss.length = n) (hl2 : (p.crop X0 Y0 X1 Y1).s31s = l2) (hts : tilesTo (acrossN p.w S) (X0 / S) ((X1 - 1) / S) (Y0 / S) ((Y1 - 1) / S + 1 - Y0 / S) = ts) (hm : ts.length = m) (hC : (nat .u8).C w A N b) (hcap : N ≤ cap) (hl : N ≤ 4194304) (hX : X0 < X1) (hX1 : X1 ≤ p.w) (hY : Y0 < Y1) (hY1 : Y1 ≤ p.h) :
    Calls Try.prog 40 #[.slice A N cap, .agg #[.int .i64 (X0 : Int), .int .i64 (Y0 : Int), .int .i64 (X1 : Int), .int .i64 (Y1 : Int)]] w fun e w' => ∃ ap c Al cl, e = .returned (.tuple #[.agg #[.int .i64 (p.sp : Int), .slice (some ap) n c], .slice Al m cl, .int .i64 0]) ∧ n ≤ c ∧ Kd.C k31 w' (some ap) n l2 ∧ m ≤ cl ∧ (nat .i64).C w' Al m ts ∧ Below w.heap.size w w' := by
 subst hb hN hn hl2 hm
 obtain ⟨e1, e2, e3, e4, e5, e6, e7⟩ := enc_fields h hS
 refine (Region_any A cap (encN p S) (X0 : Int) (Y0 : Int) (X1 : Int) (Y1 : Int) w hC hcap (enc8 p S) (by omega)).mono ?_
 rintro e w1 ⟨hB, hc | hc⟩
 ·exact absurd (regE_enc h h1 hS hl hX hX1 hY hY1) hc.1
 ·obtain ⟨_, vp, vr, rfl, hs, hP, hR⟩ := hc
  simp only [Int.toNat_natCast] at hP hR
  rw [reg_crop h h1 hS hX hX1 hY hY1] at hP
  rw [regRead_enc h h1 hS hX hX1 hY hY1, hts] at hR
  have hq := p.crop_len X0 Y0 X1 Y1
  obtain ⟨ap, c, rfl, hc, hC2⟩ := hP.C31 (by rw [hq]; exact h.2.1) (by rw [hq]; have := h.2.2.1; omega)
  obtain ⟨Al, cl, rfl, h3, h4⟩ := Kd.R_reads hR
  rw [hq] at hc hC2 ⊢
  rw [e1]
  exact ⟨ap, c, Al, cl, rfl, hc, hC2, h3, h4, hB⟩
end Go.Proofs.Ytbbebhdcfopmmaa.A
end
