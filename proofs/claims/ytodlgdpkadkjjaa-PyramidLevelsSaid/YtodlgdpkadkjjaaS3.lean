import Derived.Test.YtodlgdpkadkjjaaS2
import Derived.Laws.EntriesVeiled
import Derived.Laws.Tables
section
set_option linter.unusedVariables false
set_option linter.unusedSimpArgs false
namespace Go.Proofs.Ytodlgdpkadkjjaa.A
open Go.RowKit Go.Shelf Go.Proofs.YtodlgdpkadkjjaaW.PrintWords Go.Proofs.YtodlgdpkadkjjaaW.PrintLast Go.Proofs.YtodlgdpkadkjjaaW.PrintMore Go.Proofs.Ytodlgdpkadkjjaa.PPyramidLevels

/-- between two new samples of the first half -/
def M1 (w0 : World) (gP gR W H k cap : Nat) (A : Option Addr) (wr : World) (v : Value) (xs : List Nat) : Prop :=
 (nat .u32).R 50 wr w0.heap.size (fun _ => True) v xs ∧ wr.heap[gP]? = some (.cells #[.int .i64 (W : Int), .int .i64 (H : Int), .slice A k cap] 25 (0, 0)) ∧ wr.heap[gR]? = some (.cells #[.int .i64 0, .int .i64 0, .slice none 0 0] 25 (0, 0)) ∧ Below w0.heap.size w0 wr
/-- .. of the second -/
def M2 (W2 : World) (gQ w h : Nat) (wr : World) (v : Value) (xs : List Nat) : Prop :=
 (nat .u32).R 50 wr W2.heap.size (fun _ => True) v xs ∧ wr.heap[gQ]? = some (.cells #[.int .i64 (w : Int), .int .i64 (h : Int), v] 25 (0, 0)) ∧ Below W2.heap.size W2 wr
set_option maxHeartbeats 8000000 in
set_option maxRecDepth 100000 in
theorem resized_calls (f : FuncId) (fn : Func) (S : Shape) (hS : ShapeC f S) (hG : ShapeG S) (hf : Try.prog.funcs[f]? = some fn) (hname : (fn.name == "runtime.NumGoroutine") = false) (hbody : fn.body.isSome = true)
    (W H w h : Nat) (A : Option Addr) (cap : Nat) (p : List Nat) (w0 : World) (hW : 1 ≤ W ∧ W ≤ 1024) (hH : 1 ≤ H ∧ H ≤ 1024) (hw : 1 ≤ w ∧ w ≤ 1024) (hh : 1 ≤ h ∧ h ≤ 1024) (hp : p.length = W * H) (hpx : ∀ x ∈ p, x < 4294967296) (hC : (nat .u32).C w0 A (W * H) p) (hcap : W * H ≤ cap) :
    Calls Try.prog 52 #[.agg #[.int .i64 (W : Int), .int .i64 (H : Int), .slice A (W * H) cap], .int .i64 (w : Int), .int .i64 (h : Int), .func (.func f) #[] #[]] w0 fun e w' => ∃ v, e = .returned (.agg #[.int .i64 (w : Int), .int .i64 (h : Int), v]) ∧ (nat .u32).R 50 w' w0.heap.size (fun _ => True) v (resZ S W H w h p) ∧ Below w0.heap.size w0 w' := by
 have hu25 := Try.underlying25
 have hwH : w * H ≤ 1048576 := Nat.le_trans (Nat.mul_le_mul hw.2 hH.2) (by decide)
 have hwh : w * h ≤ 1048576 := Nat.le_trans (Nat.mul_le_mul hw.2 hh.2) (by decide)
 have hl1 : 4 * (w * H) ≤ 281474976710656 := by omega
 have hl2 : 4 * (w * h) ≤ 281474976710656 := by omega
 have e1 : IntKind.i64.wrap ((w : Int) * (H : Int)) = ((w * H : Nat) : Int) := by rw [← Int.natCast_mul]; exact wi64 (by omega) (by omega)
 have e2 : wrap64 ((w : Int) * (H : Int)) = ((w * H : Nat) : Int) := by rw [← Int.natCast_mul]; exact w64 (by omega) (by omega)
 have e3 : IntKind.i64.wrap ((w : Int) * (h : Int)) = ((w * h : Nat) : Int) := by rw [← Int.natCast_mul]; exact wi64 (by omega) (by omega)
 have e4 : wrap64 ((w : Int) * (h : Int)) = ((w * h : Nat) : Int) := by rw [← Int.natCast_mul]; exact w64 (by omega) (by omega)
 have HC := Aside0.mk hC
 have HPX := Aside0.mk hpx
 have HPL := Aside0.mk hp
 go_enter Try.func52, Try.ntmps52
 go_wp2_with (first | ((with_reducible refine gate_dst (N := 4) rfl ?_); refine box_event ?hg (N := 4) ?hd (cs := #[.int .i64 (W : Int), .int .i64 (H : Int), .slice A (W * H) cap]) (t := 25) ?hr ?_; (case hd => rfl); (case hg => rfl); (case hr => first | (go_simp; done) | (go_simp; rfl)); intro gP hg_ w1 hm_ hb_; have P1 := Aside0.mk (hm_); have B1 := Aside0.mk (hb_); have GP := Aside0.mk (show w0.heap.size ≤ gP by rw [hg_]; exact Nat.le_refl _); clear hm_ hb_ hg_) | ((with_reducible refine gate_dst (N := 8) rfl ?_); refine box_event ?hg (N := 8) ?hd (cs := #[.int .i64 0, .int .i64 0, .slice none 0 0]) (t := 25) ?hr ?_; (case hd => rfl); (case hg => rfl); (case hr => first | (go_simp; done) | (go_simp; rfl)); intro gR hg_ w2 hm_ hb_; have R2 := Aside0.mk (hm_); have P2 := Aside0.mk (blk_below P1.out hb_); have B2 := Aside0.mk (below_step B1.out hb_); have NPR := Aside0.mk (show gP ≠ gR by rw [hg_]; have := blk_lt P1.out; omega); have GR := Aside0.mk (show w0.heap.size ≤ gR by rw [hg_]; exact below_size B1.out); have o1 := (blk_cell P2.out 1).trans rfl; clear hm_ hb_ hg_ P1 B1) | ((with_reducible refine gate_dst (N := 20) rfl ?_); refine make0_event ?hg (N := 20) ?hd 23 50 _ _ rfl (w * H) ?hx ?hy Try.underlying23 (.int .u32 0) 4 info50 hwH hl1 ?_; (case hg => rfl); (case hd => rfl); (case hx => rfl); (case hy => first | rfl | (with_reducible exact congrArg _ e1)); intro gT hg_ w3 hm_ hb_; have T3 := Aside0.mk (hm_); have P3 := Aside0.mk (blk_below P2.out hb_); have R3 := Aside0.mk (blk_below R2.out hb_); have B3 := Aside0.mk (below_step B2.out hb_); have GT := Aside0.mk (show w0.heap.size ≤ gT by rw [hg_]; exact below_size B2.out); have NPT := Aside0.mk (show gP ≠ gT by rw [hg_]; have := blk_lt P2.out; omega); have NRT := Aside0.mk (show gR ≠ gT by rw [hg_]; have := blk_lt R2.out; omega); clear o1; have o1 := (blk_cell P3.out 1).trans rfl; clear hm_ hb_ hg_ P2 R2 B2))
 have HI0 : Aside0 (M1 w0 gP gR W H (W * H) cap A w3 (.slice (some ⟨gT, 0, none⟩) 0 (w * H)) []) := ⟨⟨R_made0 T3.out GT.out hwH (size_made _ _), P3.out, R3.out, B3.out⟩⟩
 have E3 := Aside0.mk e3
 have E4 := Aside0.mk e4
 have HL2 := Aside0.mk hl2
 have HWH := Aside0.mk hwh
 have HwH := Aside0.mk hwH
 clear o1 T3 P3 R3 B3 NPT NRT e1 e2 e3 e4 hC hpx hp hl1 hl2 hwh hwH
 obtain ⟨F, hF⟩ : ∃ F : Nat → Nat → Nat, F = (fun x y => smp S ((p.drop (y * W)).take W) 1 x W) := ⟨_, rfl⟩
 have HF := Aside0.mk hF
 clear hF
 obtain ⟨xs0, hxs0⟩ : ∃ xs0 : List Nat, xs0 = [] := ⟨_, rfl⟩
 rw [← hxs0] at HI0
 have HX0 : Aside0 (xs0 = gridTo F w (0 * w)) := ⟨by rw [hxs0, Nat.zero_mul]; rfl⟩
 clear hxs0
 go_loopw [9, 23] (fun tv yv wr => ∃ (y : Nat) (xs : List Nat), y ≤ H ∧ yv = .int .i64 (y : Int) ∧ Aside0 (xs = gridTo F w (y * w)) ∧ Aside0 (M1 w0 gP gR W H (W * H) cap A wr tv xs)) (fun _ yv _ => H - (intOf yv).toNat)
 case atStart => exact ⟨0, xs0, Nat.zero_le _, rfl, HX0, HI0⟩
 case round =>
  obtain ⟨y, xsy, hy, rfl, HXY, HI⟩ := hrel
  clear HI0 HX0
  by_cases hlt : y < H
  ·have c1 : decide ((y : Int) < (H : Int)) = true := decide_eq_true (by omega)
   have z0 := (blk_cell HI.out.2.1 0).trans rfl
   have z2 := (blk_cell HI.out.2.1 2).trans rfl
   have hyW : y * W + W ≤ W * H := by
    rw [Nat.mul_comm W H, ← Nat.succ_mul]; exact Nat.mul_le_mul_right W hlt
   have hWH : W * H ≤ 1048576 := Nat.le_trans (Nat.mul_le_mul hW.2 hH.2) (by decide)
   have HCR := Aside0.mk (nat_mid HC.out hyW)
   obtain ⟨row, hrow⟩ : ∃ row, (p.drop (y * W)).take W = row := ⟨_, rfl⟩
   have HRF : Aside0 (∀ x, F x y = smp S row 1 x W) := ⟨by intro x; rw [HF.out, ← hrow]⟩
   have HRX : Aside0 (∀ x ∈ row, x < 4294967296) := ⟨by rw [← hrow]; exact fun x hx => HPX.out x (List.mem_of_mem_drop (List.mem_of_mem_take hx))⟩
   rw [hrow] at HCR
   have HRL := Aside0.mk (Kd.C_len HCR.out)
   obtain ⟨lo, hlo⟩ : ∃ lo, y * W = lo := ⟨_, rfl⟩
   obtain ⟨hi, hhi⟩ : ∃ hi, (y + 1) * W = hi := ⟨_, rfl⟩
   obtain ⟨kk1, hkk⟩ : ∃ k, W * H = k := ⟨_, rfl⟩
   have hlohi : lo + W = hi := by rw [← hlo, ← hhi, Nat.succ_mul]
   rw [hlo] at HCR
   have x1 : (y : Int) * (W : Int) = (lo : Int) := by rw [← hlo, Int.natCast_mul]
   have x2 : ((y : Int) + 1) * (W : Int) = (hi : Int) := by rw [← hhi, Int.natCast_mul, Int.natCast_succ]
   have X1 := Aside0.mk x1
   have X2 := Aside0.mk x2
   have X3 : Aside0 (lo + W = hi ∧ 0 < W ∧ hi ≤ cap ∧ hi < 9223372036854775808) := ⟨⟨hlohi, by omega, by omega, by omega⟩⟩
   obtain ⟨AR, hAR⟩ : ∃ AR, A.map (·.add lo) = AR := ⟨_, rfl⟩
   rw [hAR] at HCR
   have HAR := Aside0.mk hAR
   clear x1 x2 hAR hlohi hyW hWH hhi hlo hrow hkk
   go_wp2_with (first | ((with_reducible refine gate_dst (N := 31) rfl ?_); refine same_event ?hg (.int .i64 (lo : Int)) ?hr ?_; (case hg => rfl); (case hr => exact ev_mul rfl rfl rfl X1.out (by omega) (by have := X3.out; omega) _)) | ((with_reducible refine gate_dst (N := 36) rfl ?_); refine same_event ?hg (.int .i64 (hi : Int)) ?hr ?_; (case hg => rfl); (case hr => exact ev_mul rfl rfl rfl X2.out (by omega) (by have := X3.out; omega) _)) | ((with_reducible refine gate_dst (N := 41) rfl ?_); refine same_event ?hg (.int .i64 (hi : Int)) ?hr ?_; (case hg => rfl); (case hr => exact ev_mul rfl rfl rfl X2.out (by omega) (by have := X3.out; omega) _)) | ((with_reducible refine gate_dst (N := 42) rfl ?_); refine same_event ?hg (.slice AR W W) ?hr ?_; (case hg => rfl); (case hr => exact (by rw [← HAR.out]; exact ev_slice3 rfl rfl rfl rfl rfl X3.out.1 X3.out.2.1 X3.out.2.2.1 _))))
   clear z0 z2
   have HY1 : Aside0 (xsy = gridTo F w (y * w + 0)) := ⟨HXY.out⟩
   go_loopw [9, 44] (fun tv xv wr2 => ∃ (x : Nat) (xs : List Nat), x ≤ w ∧ xv = .int .i64 (x : Int) ∧ Aside0 (xs = gridTo F w (y * w + x)) ∧ Aside0 (M1 w0 gP gR W H (W * H) cap A wr2 tv xs)) (fun _ xv _ => w - (intOf xv).toNat)
   case atStart => exact ⟨0, xsy, Nat.zero_le _, rfl, HY1, HI⟩
   case round =>
    clear HI HXY HY1
    obtain ⟨x, xs, hx, rfl, HX, HI⟩ := hrel
    by_cases hxl : x < w
    ·have c2 : decide ((x : Int) < (w : Int)) = true := decide_eq_true (by omega)
     have z0 := (blk_cell HI.out.2.1 0).trans rfl
     have HA1 := Aside0.mk HI.out.1
     have HP1 := Aside0.mk HI.out.2.1
     have HR1 := Aside0.mk HI.out.2.2.1
     have HB1 := Aside0.mk HI.out.2.2.2
     have hx1 : x < 100000 := by omega
     have HX1 := Aside0.mk hx1
     have HXL := Aside0.mk hxl
     have HYL := Aside0.mk hlt
     obtain ⟨z, hz⟩ : ∃ z, smp S row 1 x W = z := ⟨_, rfl⟩
     have HZ := Aside0.mk hz
     have HXS : Aside0 (xs ++ [z] = gridTo F w (y * w + (x + 1))) := ⟨by rw [← hz, ← HRF.out x, HX.out]; exact (gridTo_succ F hxl).symm⟩
     have HXN : Aside0 ((xs.length + 1) * 4 ≤ 140737488355328) := ⟨by
      rw [HX.out, gridTo_length]
      have : y * w + w ≤ H * w := by rw [← Nat.succ_mul]; exact Nat.mul_le_mul_right w hlt
      have h9 := HwH.out
      rw [Nat.mul_comm] at h9
      omega⟩
     clear HI hz
     go_wp2_with (first | ((with_reducible refine gate_dst (N := 53) rfl ?_); refine callV0_event rfl (N := 53) rfl hf hname hbody #[.int .i64 (x : Int), .int .i64 (W : Int)] rfl rfl ?ha ?_; (case ha => first | rfl | (simp only [List.map_toArray, List.map_cons, List.map_nil]; rfl)); refine (hS x (W : Int) _ HX1.out).mono ?_; rintro e w5 ⟨lb, rfl, hIt, hb⟩; refine ⟨_, rfl, ?_⟩; have IT := Aside0.mk (hIt); have A2 := Aside0.mk (Kd.R_below HA1.out hb); have P2 := Aside0.mk (blk_below HP1.out hb); have R2 := Aside0.mk (blk_below HR1.out hb); have B2 := Aside0.mk (below_step HB1.out hb); have C2 := Aside0.mk (Kd.C_below HCR.out (below_step HB1.out hb)); clear hIt hb) | (go_at_call 72; refine (smp1_calls S hG AR W x W W row lb _ HRL.out C2.out (Nat.le_refl _) HRX.out HX1.out IT.out ?s1 ?s2).mono ?_; (case s1 => omega); (case s2 => omega); rw [HZ.out]; rintro e w6 ⟨rfl, hb⟩; have A3 := Aside0.mk (Kd.R_below A2.out hb); have P3 := Aside0.mk (blk_below P2.out hb); have R3 := Aside0.mk (blk_below R2.out hb); have B3 := Aside0.mk (below_step B2.out hb); clear hb) | ((with_reducible refine gate_builtin (b := .append) (xs := #[.tmp 47, .tmp 55]) rfl ?_); at_builtin; refine Kd.R_append (nat .u32) (w0 := w0) w0.heap.size rfl (.tmp 47) (.tmp 55) 23 50 (.int .u32 0) 4 rfl Try.underlying23 info50 rfl (by decide) (by omega) u9 xs z [.int .u32 (z : Int)] (fun _ => True) (fun _ => False) rfl rfl rfl (fun _ hk => hk.elim) (fun _ _ => trivial) A3.out B3.out B3.out.size HXN.out ?_; intro v7 w7 hR hB hg hat; have A4 := Aside0.mk (hR); have B4 := Aside0.mk (hB); have P4 := Aside0.mk (blk_grown P3.out hg (Kd.R_ne A3.out P3.out (by decide))); have R4 := Aside0.mk (blk_grown R3.out hg (Kd.R_ne A3.out R3.out (by decide))); clear hR hB hg hat))
     go_roundw
     case measure => simp [intOf]; omega
     case rel => exact ⟨x + 1, _, by omega, by go_num, HXS, ⟨⟨A4.out, P4.out, R4.out, B4.out⟩⟩⟩
    ·obtain rfl : x = w := by omega
     have c2 : decide ((x : Int) < (x : Int)) = false := decide_eq_false (by omega)
     have HXX : Aside0 (xs = gridTo F x ((y + 1) * x)) := ⟨by rw [HX.out, Nat.succ_mul]⟩
     have HI1 := Aside0.mk HI.out
     clear HX HI
     go_wp2
     go_roundw
     case measure => simp [intOf]; omega
     case rel => exact ⟨y + 1, _, by omega, by go_num, HXX, HI1⟩
  ·obtain rfl : H = y := by omega
   have c1 : decide ((H : Int) < (H : Int)) = false := decide_eq_false (by omega)
   obtain ⟨W2, hW2⟩ : ∃ W2 : World, W2 = wr := ⟨_, rfl⟩
   subst hW2
   obtain ⟨T, tc, hv, htc, hCT⟩ := Kd.R_reads HI.out.1
   obtain ⟨mid, hmid⟩ : ∃ mid, midZ S W H w p = mid := ⟨_, rfl⟩
   have hxm : xsy = mid := by rw [HXY.out, HF.out, ← hmid]; rfl
   have hml : mid.length = H * w := by rw [← hmid]; exact midZ_length S W H w p
   have HMX : Aside0 (∀ x ∈ mid, x < 4294967296) := ⟨by rw [← hmid]; exact midZ_lt S hG W H w p HPX.out hW.1 (by omega)⟩
   obtain ⟨tn, htn⟩ : ∃ tn, H * w = tn := ⟨_, rfl⟩
   rw [hxm, hml, htn] at hv htc hCT
   rw [htn] at hml
   have HCT := Aside0.mk hCT
   have HML := Aside0.mk hml
   have HTC := Aside0.mk htc
   have HTN := Aside0.mk htn
   have HMID := Aside0.mk hmid
   have hl2 := HL2.out
   have hwh := HWH.out
   have e3 := E3.out
   have e4 := E4.out
   have HP0 := Aside0.mk HI.out.2.1
   have HR0 := Aside0.mk HI.out.2.2.1
   have HB0 := Aside0.mk HI.out.2.2.2
   have hRG : (some gR ≠ u9.ownBlock) := Kd.R_ne HI.out.1 HI.out.2.2.1 (by decide)
   subst hv
   clear hCT hml htc htn hmid hxm HXY HI hRG E3 E4
   have hHw : 1 ≤ w := hw.1
   go_wp2_with (first | ((with_reducible refine gate_dst (N := 64) rfl ?_); refine make0_event ?hg (N := 64) ?hd 23 50 _ _ rfl (w * h) ?hx ?hy Try.underlying23 (.int .u32 0) 4 info50 hwh hl2 ?_; (case hg => rfl); (case hd => rfl); (case hx => rfl); (case hy => first | rfl | (with_reducible exact congrArg _ e3)); intro gS hg_ w5 hm_ hb_; have S5 := Aside0.mk (hm_); have B5 := Aside0.mk (hb_); have GS := Aside0.mk (show W2.heap.size ≤ gS by rw [hg_]; exact Nat.le_refl _); clear hm_ hb_ hg_) | ((with_reducible refine gate_dst (N := 13) rfl ?_); refine box_event ?hg (N := 13) ?hd (cs := #[.int .i64 0, .int .i64 0, .slice none 0 0]) (t := 25) ?hr ?_; (case hd => rfl); (case hg => rfl); (case hr => first | (go_simp; done) | (go_simp; rfl)); intro gQ hg_ w6 hm_ hb_; have X_ := Aside0.mk (put3 (x := .int .i64 (w : Int)) (y := .int .i64 (h : Int)) (z := .slice (some ⟨gS, 0, none⟩) 0 (w * h)) hm_ rfl); have NSQ := Aside0.mk (show gS ≠ gQ by rw [hg_]; have := blk_lt S5.out; omega); have GQ := Aside0.mk (show W2.heap.size ≤ gQ by rw [hg_]; exact B5.out.size); have S7 := Aside0.mk ((X_.out.2.1 gS NSQ.out).trans (blk_below S5.out hb_)); have B7 := Aside0.mk ((below_step B5.out hb_).trans (X_.out.2.2 _ GQ.out)); have Q7 := Aside0.mk (X_.out.1); have M_ := Aside0.mk hm_; have o0 := (blk_cell M_.out 0).trans rfl; have o1 := (blk_cell M_.out 1).trans rfl; have o2 := (blk_cell M_.out 2).trans rfl; have fo0 := blk_frozen M_.out 0; have fo1 := blk_frozen M_.out 1; have fo2 := blk_frozen M_.out 2; clear hm_ hb_ hg_ X_ M_ S5 B5))
   generalize ((w6.setCell ⟨gQ, 0, none⟩ (.int .i64 (w : Int))).setCell ⟨gQ, 1, none⟩ (.int .i64 (h : Int))).setCell ⟨gQ, 2, none⟩ (.slice (some ⟨gS, 0, none⟩) 0 (w * h)) = w7 at *
   obtain ⟨G, hG9⟩ : ∃ G : Nat → Nat → Nat, G = (fun x y => smp S (mid.drop x) w y H) := ⟨_, rfl⟩
   have HGF := Aside0.mk hG9
   obtain ⟨v0, hv0⟩ : ∃ v0 : Value, v0 = .slice (some ⟨gS, 0, none⟩) 0 (w * h) := ⟨_, rfl⟩
   obtain ⟨ys0, hys0⟩ : ∃ ys0 : List Nat, ys0 = [] := ⟨_, rfl⟩
   have HJ0 : Aside0 (M2 W2 gQ w h w7 v0 ys0) := ⟨by rw [hv0, hys0]; exact ⟨R_made0 S7.out GS.out hwh (size_made _ _), Q7.out, B7.out⟩⟩
   have HY0 : Aside0 (ys0 = gridTo G w (0 * w)) := ⟨by rw [hys0, Nat.zero_mul]; rfl⟩
   clear o0 o1 o2 fo0 fo1 fo2 e3 e4 hl2 hwh S7 Q7 B7 GS hG9 hv0 hys0
   go_wp2
   go_loopw [67] (fun yv wr3 => ∃ (y : Nat) (v : Value) (ys : List Nat), y ≤ h ∧ yv = .int .i64 (y : Int) ∧ Aside0 (ys = gridTo G w (y * w)) ∧ Aside0 (M2 W2 gQ w h wr3 v ys)) (fun yv _ => h - (intOf yv).toNat)
   case atStart => exact ⟨0, v0, ys0, Nat.zero_le _, rfl, HY0, HJ0⟩
   case round =>
    clear HJ0 HY0
    obtain ⟨y, v, ys, hy, rfl, HYY, HJ⟩ := hrel
    by_cases hlt : y < h
    ·have c1 : decide ((y : Int) < (h : Int)) = true := decide_eq_true (by omega)
     go_wp2
     have HY1 : Aside0 (ys = gridTo G w (y * w + 0)) := ⟨HYY.out⟩
     go_loopw [71] (fun xv wr4 => ∃ (x : Nat) (v : Value) (xs : List Nat), x ≤ w ∧ xv = .int .i64 (x : Int) ∧ Aside0 (xs = gridTo G w (y * w + x)) ∧ Aside0 (M2 W2 gQ w h wr4 v xs)) (fun xv _ => w - (intOf xv).toNat)
     case atStart => exact ⟨0, v, ys, Nat.zero_le _, rfl, HY1, HJ⟩
     case round =>
      clear HJ HYY HY1
      obtain ⟨x, v, xs, hx, rfl, HX, HJ⟩ := hrel
      by_cases hxl : x < w
      ·have c2 : decide ((x : Int) < (w : Int)) = true := decide_eq_true (by omega)
       have hx1 : y < 100000 := by omega
       have HX1 := Aside0.mk hx1
       have HXL := Aside0.mk hxl
       have HYL := Aside0.mk hlt
       obtain ⟨z, hz⟩ : ∃ z, smp S (mid.drop x) w y H = z := ⟨_, rfl⟩
       have HZ := Aside0.mk hz
       obtain ⟨xs', hxs'⟩ : ∃ xs', xs ++ [z] = xs' := ⟨_, rfl⟩
       have HXA := Aside0.mk hxs'
       have HXS : Aside0 (xs' = gridTo G w (y * w + (x + 1))) := ⟨by rw [← hxs', ← hz, HX.out]; have := (gridTo_succ G (y := y) hxl).symm; rw [HGF.out] at this ⊢; exact this⟩
       have hle : y * w + w ≤ w * h := by rw [Nat.mul_comm w h, ← Nat.succ_mul]; exact Nat.mul_le_mul_right w hlt
       have HXN : Aside0 ((xs.length + 1) * 4 ≤ 140737488355328) := ⟨by
        rw [HX.out, gridTo_length]; have h9 := HWH.out; omega⟩
       have hwtn : (H - 1) * w + w = tn := by rw [← HTN.out, ← Nat.succ_mul]; congr 1; omega
       have hxtn : x ≤ tn := by omega
       have hxtc : x < tc := by have := HTC.out; omega
       obtain ⟨m1, hm1⟩ : ∃ m1, tn - x = m1 := ⟨_, rfl⟩
       obtain ⟨m2, hm2⟩ : ∃ m2, tc - x = m2 := ⟨_, rfl⟩
       obtain ⟨T', hT'⟩ : ∃ T', T.map (·.add x) = T' := ⟨_, rfl⟩
       have hcut := from_run T tn tc x hxtn hxtc
       have hCX := nat_from HCT.out hxtn
       rw [hm1, hT'] at hCX
       rw [hm1, hm2, hT'] at hcut
       have HCX := Aside0.mk hCX
       have HM12 : Aside0 (m1 ≤ m2 ∧ (H - 1) * w < m1) := ⟨by have := HTC.out; omega⟩
       obtain ⟨A3, c3, hv, hc3, hC3⟩ := Kd.R_reads HJ.out.1
       obtain ⟨n3, hn3⟩ : ∃ n3, xs.length = n3 := ⟨_, rfl⟩
       rw [hn3] at hv hc3 hC3
       have HN3 := Aside0.mk hn3
       have HCUT := Aside0.mk hcut
       subst hv
       have R3 := Aside0.mk (Kd.R_drew HJ.out.1)
       have P3 := Aside0.mk (blk_drew HJ.out.2.1)
       have B3 := Aside0.mk (below_drew HJ.out.2.2)
       have GQL : Aside0 (W2.heap.size ≤ gQ) := GQ
       clear hz hxs' hle hwtn hxtn hxtc hm1 hm2 hT' hCX hc3 hC3 hn3 hcut HJ hx1
       go_upto_region 19 with (fail)
       have hcut := HCUT.out
       have HX3 := Aside0.mk (blk_below HP0.out B3.out)
       refine start_ (n := 16) (S := fun w' => w'.cell? ⟨gQ, 2, none⟩ = some (.slice A3 n3 c3) ∧ w'.cell? ⟨gP, 1, none⟩ = some (.int .i64 (H : Int))) (ds := [13, 15]) #[ff_,ff_,ff_,ff_,ff_,ff_,ff_,ff_,ff_,ff_,ff_,ff_,ff_,ff_,ff_,ff_] (by kernel_rfl) rfl rfl ⟨(blk_cell P3.out 2).trans rfl, (blk_cell HX3.out 1).trans rfl⟩ (fun hHeld => ?_)
       refine pure_ (i := 0) (N := some 74) (v := ?_) (a' := ?_) #[tt_,ff_,ff_,ff_,ff_,ff_,ff_,ff_,ff_,ff_,ff_,ff_,ff_,ff_,ff_,ff_] rfl rfl (by kernel_rfl) (fun _ _ _ h => h) (Or.inl ⟨by rfl, ?_⟩) ?_ ?_
       rotate_left
       ·intro w'
        go_simp
        with_reducible rfl
       rotate_left
       ·simp only [Act.put, List.setIfInBounds_toArray, List.set_cons_zero, List.set_cons_succ, i64_w, i32_w]
        rfl
       refine pure_ (i := 2) (N := some 76) (v := ?_) (a' := ?_) #[tt_,ff_,tt_,ff_,ff_,ff_,ff_,ff_,ff_,ff_,ff_,ff_,ff_,ff_,ff_,ff_] rfl rfl (by kernel_rfl) (fun _ _ _ h => h) (Or.inl ⟨by rfl, ?_⟩) ?_ ?_
       rotate_left
       ·intro w'
        go_simp
        with_reducible rfl
       rotate_left
       ·simp only [Act.put, List.setIfInBounds_toArray, List.set_cons_zero, List.set_cons_succ, i64_w, i32_w]
        rfl
       refine pure_ (i := 3) (N := some 77) (v := ?_) (a' := ?_) #[tt_,ff_,tt_,tt_,ff_,ff_,ff_,ff_,ff_,ff_,ff_,ff_,ff_,ff_,ff_,ff_] rfl rfl (by kernel_rfl) (fun _ _ _ h => h) (Or.inl ⟨by rfl, ?_⟩) ?_ ?_
       rotate_left
       ·intro w'
        go_simp
        with_reducible rfl
       rotate_left
       ·simp only [Act.put, List.setIfInBounds_toArray, List.set_cons_zero, List.set_cons_succ, i64_w, i32_w]
        rfl
       refine pure_ (i := 4) (N := some 78) (v := ?_) (a' := ?_) #[tt_,ff_,tt_,tt_,tt_,ff_,ff_,ff_,ff_,ff_,ff_,ff_,ff_,ff_,ff_,ff_] rfl rfl (by kernel_rfl) (fun _ _ _ h => h) (Or.inl ⟨by rfl, ?_⟩) ?_ ?_
       rotate_left
       ·intro w'
        go_simp
        with_reducible rfl
       rotate_left
       ·simp only [Act.put, List.setIfInBounds_toArray, List.set_cons_zero, List.set_cons_succ, i64_w, i32_w]
        rfl
       refine pure_ (i := 5) (N := some 79) (v := ?_) (a' := ?_) #[tt_,ff_,tt_,tt_,tt_,tt_,ff_,ff_,ff_,ff_,ff_,ff_,ff_,ff_,ff_,ff_] rfl rfl (by kernel_rfl) (fun _ _ _ h => h) (Or.inl ⟨by rfl, ?_⟩) ?_ ?_
       rotate_left
       ·intro w'
        go_simp
        with_reducible rfl
       rotate_left
       ·simp only [Act.put, List.setIfInBounds_toArray, List.set_cons_zero, List.set_cons_succ, i64_w, i32_w]
        rfl
       refine pure_ (i := 6) (N := some 80) (v := ?_) (a' := ?_) #[tt_,ff_,tt_,tt_,tt_,tt_,tt_,ff_,ff_,ff_,ff_,ff_,ff_,ff_,ff_,ff_] rfl rfl (by kernel_rfl) (fun _ _ _ h => h) (Or.inl ⟨by rfl, ?_⟩) ?_ ?_
       rotate_left
       ·intro w'
        go_simp
        with_reducible rfl
       rotate_left
       ·simp only [Act.put, List.setIfInBounds_toArray, List.set_cons_zero, List.set_cons_succ, i64_w, i32_w]
        rfl
       refine pure_ (i := 7) (N := some 81) (v := ?_) (a' := ?_) #[tt_,ff_,tt_,tt_,tt_,tt_,tt_,tt_,ff_,ff_,ff_,ff_,ff_,ff_,ff_,ff_] rfl rfl (by kernel_rfl) (fun _ _ _ h => h) (Or.inl ⟨by rfl, ?_⟩) ?_ ?_
       rotate_left
       ·intro w'
        go_simp
        with_reducible rfl
       rotate_left
       ·simp only [Act.put, List.setIfInBounds_toArray, List.set_cons_zero, List.set_cons_succ, i64_w, i32_w]
        rfl
       refine pure_ (i := 8) (N := some 82) (v := ?_) (a' := ?_) #[tt_,ff_,tt_,tt_,tt_,tt_,tt_,tt_,tt_,ff_,ff_,ff_,ff_,ff_,ff_,ff_] rfl rfl (by kernel_rfl) (fun _ _ _ h => h) (Or.inl ⟨by rfl, ?_⟩) ?_ ?_
       rotate_left
       ·intro w'
        go_simp
        with_reducible rfl
       rotate_left
       ·simp only [Act.put, List.setIfInBounds_toArray, List.set_cons_zero, List.set_cons_succ, i64_w, i32_w]
        rfl
       refine take_ (i := 1) (N := some 75) (v := ?_) (a' := ?_) #[tt_,tt_,tt_,tt_,tt_,tt_,tt_,tt_,tt_,ff_,ff_,ff_,ff_,ff_,ff_,ff_] rfl rfl (by kernel_rfl) (fun _ _ _ h => h) (Or.inl ⟨by rfl, ?_⟩) hHeld ?_ ?_
       rotate_left
       ·rintro w' ⟨s0, s1⟩
        go_simp
        with_reducible rfl
       rotate_left
       ·simp only [Act.put, List.setIfInBounds_toArray, List.set_cons_zero, List.set_cons_succ, i64_w, i32_w]
        rfl
       refine take_ (i := 9) (N := some 83) (v := ?_) (a' := ?_) #[tt_,tt_,tt_,tt_,tt_,tt_,tt_,tt_,tt_,tt_,ff_,ff_,ff_,ff_,ff_,ff_] rfl rfl (by kernel_rfl) (fun _ _ _ h => h) (Or.inl ⟨by rfl, ?_⟩) hHeld ?_ ?_
       rotate_left
       ·rintro w' ⟨s0, s1⟩
        go_simp
        with_reducible rfl
       rotate_left
       ·simp only [Act.put, List.setIfInBounds_toArray, List.set_cons_zero, List.set_cons_succ, i64_w, i32_w]
        rfl
       refine one_ (i := 10) (N := some 84) #[tt_,tt_,tt_,tt_,tt_,tt_,tt_,tt_,tt_,tt_,tt_,ff_,ff_,ff_,ff_,ff_] rfl rfl (by kernel_rfl) (by decide) (fun K hK => ?_)
       refine goesV0_ hf hname hbody #[.int .i64 (y : Int), .int .i64 (H : Int)] (by rfl) rfl rfl (by rfl) (by (try simp only [List.map_toArray, List.map_cons, List.map_nil]); rfl) ?_
       refine (hS y (H : Int) _ HX1.out).mono ?_
       rintro e w5 ⟨lb, rfl, hIt, hb⟩
       refine ⟨_, rfl, ?_⟩
       have IT := Aside0.mk (hIt)
       have R5 := Aside0.mk (Kd.R_below R3.out hb)
       have P5 := Aside0.mk (blk_below P3.out hb)
       have B5 := Aside0.mk (below_step B3.out hb)
       have HX5 := Aside0.mk (blk_below HX3.out hb)
       clear hIt hb
       refine hK.out _ _ ⟨(blk_cell P5.out 2).trans rfl, (blk_cell HX5.out 1).trans rfl⟩ (fun hHeld => ?_)
       clear hK K
       refine norm_ (a' := ?_) ?_ ?_
       rotate_left
       ·show Act.put _ (some 84) _ = _
        simp only [Act.put, List.setIfInBounds_toArray, List.set_cons_zero, List.set_cons_succ, i64_w, i32_w]
        rfl
       refine one_ (i := 11) (N := some 85) #[tt_,tt_,tt_,tt_,tt_,tt_,tt_,tt_,tt_,tt_,tt_,tt_,ff_,ff_,ff_,ff_] rfl rfl (by kernel_rfl) (by decide) (fun K hK => ?_)
       refine goes_ Try.func72 (by kernel_rfl) rfl #[.slice T' m1 m2, .int .i64 (w : Int), .func (.func 80) #[] lb] (by rfl) rfl rfl (by (try simp only [List.map_toArray, List.map_cons, List.map_nil]); rfl) ?_
       refine (smpn_calls S hG T' m2 w y H m1 (mid.drop x) lb _ (Kd.C_len HCX.out) (Kd.C_below HCX.out B5.out) HM12.out.1 (fun z hz => HMX.out z (List.mem_of_mem_drop hz)) HX1.out IT.out ?s0 ?s1 HM12.out.2).mono ?_
       (case s0 => omega)
       (case s1 => omega)
       rw [HZ.out]
       rintro e w6 ⟨rfl, hb⟩
       refine ⟨_, rfl, ?_⟩
       have R6 := Aside0.mk (Kd.R_below R5.out hb)
       have P6 := Aside0.mk (blk_below P5.out hb)
       have B6 := Aside0.mk (below_step B5.out hb)
       have HX6 := Aside0.mk (blk_below HX5.out hb)
       clear hb
       refine hK.out _ _ ⟨(blk_cell P6.out 2).trans rfl, (blk_cell HX6.out 1).trans rfl⟩ (fun hHeld => ?_)
       clear hK K
       refine norm_ (a' := ?_) ?_ ?_
       rotate_left
       ·show Act.put _ (some 85) _ = _
        simp only [Act.put, List.setIfInBounds_toArray, List.set_cons_zero, List.set_cons_succ, i64_w, i32_w]
        rfl
       refine one_ (i := 12) (N := some 86) #[tt_,tt_,tt_,tt_,tt_,tt_,tt_,tt_,tt_,tt_,tt_,tt_,tt_,ff_,ff_,ff_] rfl rfl (by kernel_rfl) (by decide) (fun K hK => ?_)
       refine value_ (w1 := ?_) (v := ?_) (by rfl) rfl ?_ ?_
       rotate_left 2
       ·go_simp
        constructor
        ·rfl
        ·rfl
       refine hK.out _ _ ⟨(blk_cell (blk_below P6.out (below_alloc (Below.refl _ w6) (.cells #[.int .u32 (z : Int)] 50 (0, 0)))) 2).trans rfl, (blk_cell (blk_below HX6.out (below_alloc (Below.refl _ w6) (.cells #[.int .u32 (z : Int)] 50 (0, 0)))) 1).trans rfl⟩ (fun hHeld => ?_)
       clear hK K
       refine norm_ (a' := ?_) ?_ ?_
       rotate_left
       ·show Act.put _ (some 86) _ = _
        simp only [Act.put, List.setIfInBounds_toArray, List.set_cons_zero, List.set_cons_succ, i64_w, i32_w]
        rfl
       refine last_ (i := 13) (N := some 87) #[tt_,tt_,tt_,tt_,tt_,tt_,tt_,tt_,tt_,tt_,tt_,tt_,tt_,tt_,ff_,ff_] rfl rfl (by kernel_rfl) (by decide) (fun K hK => ?_)
       refine Kd.R_append_step (nat .u32) (w0 := W2) W2.heap.size (by rfl) (.tmp 75) (.tmp 86) 23 50 (.int .u32 0) 4 rfl Try.underlying23 info50 rfl (by decide) (by decide) (.slice A3 n3 c3) xs z [.int .u32 (z : Int)] (fun _ => True) (fun _ => False) rfl rfl rfl (fun _ hk => hk.elim) (fun _ _ => trivial) R6.out B6.out B6.out.size HXN.out ?_
       intro v9 w9 hR hB hg hat
       rw [HXA.out] at hR
       obtain ⟨A7, c7, hv7⟩ := Kd.R_slice hR
       obtain ⟨n7, hn7⟩ : ∃ n7, xs'.length = n7 := ⟨_, rfl⟩
       rw [hn7] at hv7
       subst hv7
       have R7 := Aside0.mk (hR)
       have B7 := Aside0.mk (hB)
       have P7 := Aside0.mk (blk_grown P6.out hg (Kd.R_ne R6.out P6.out (by decide)))
       clear hR hB hg hat hn7
       have q2 := (blk_cell P7.out 2).trans rfl
       have fr2 := blk_frozen P7.out 2
       refine hK.out _ _ ?_
       clear hK K
       refine norm_ (a' := ?_) ?_ ?_
       rotate_left
       ·show Act.put _ (some 87) _ = _
        simp only [Act.put, List.setIfInBounds_toArray, List.set_cons_zero, List.set_cons_succ, i64_w, i32_w]
        rfl
       refine pure_ (i := 14) (N := some 88) (v := ?_) (a' := ?_) #[tt_,tt_,tt_,tt_,tt_,tt_,tt_,tt_,tt_,tt_,tt_,tt_,tt_,tt_,tt_,ff_] rfl rfl (by kernel_rfl) (fun _ _ _ h => h) (Or.inl ⟨by rfl, ?_⟩) ?_ ?_
       rotate_left
       ·intro w'
        go_simp
        with_reducible rfl
       rotate_left
       ·simp only [Act.put, List.setIfInBounds_toArray, List.set_cons_zero, List.set_cons_succ, i64_w, i32_w]
        rfl
       refine last_ (i := 15) (N := none) #[tt_,tt_,tt_,tt_,tt_,tt_,tt_,tt_,tt_,tt_,tt_,tt_,tt_,tt_,tt_,tt_] rfl rfl (by kernel_rfl) (by decide) (fun K hK => ?_)
       refine skip_ (w1 := ?_) (by rfl) rfl ?_ ?_
       rotate_left
       ·go_simp
        rfl
       refine hK.out _ _ ?_
       clear hK K
       refine done_ (by kernel_rfl) ?_
       obtain ⟨w10, hw10⟩ : ∃ w10, w10 = w9.setCell ⟨gQ, 2, none⟩ (.slice A7 n7 c7) := ⟨_, rfl⟩
       rw [← hw10]
       have P10 : w10.heap[gQ]? = some (.cells #[.int .i64 (w : Int), .int .i64 (h : Int), .slice A7 n7 c7] 25 (0, 0)) := by rw [hw10]; exact (blk_set P7.out 2 _).trans rfl
       have st10 : ∀ k, k ≠ gQ → w10.heap[k]? = w9.heap[k]? := by rw [hw10]; exact fun k hk => Below.heap_setCell _ _ _ k hk
       have R10 : (nat .u32).R 50 w10 W2.heap.size (fun _ => True) (.slice A7 n7 c7) xs' := Kd.R_mono (Kd.R_move (Kd.R_types R7.out P7.out (by decide)) (fun k hk => st10 k hk.2)) (fun _ _ => trivial)
       have B10 : Below W2.heap.size W2 w10 := by rw [hw10]; exact B7.out.setCell (p := ⟨gQ, 2, none⟩) GQL.out _
       have HJ : Aside0 (M2 W2 gQ w h w10 (.slice A7 n7 c7) xs') := ⟨R10, P10, B10⟩
       clear hw10 P10 st10 R10 B10 hcut
       try go_wp2
       go_roundw
       case measure => simp [intOf]; omega
       case rel => exact ⟨x + 1, _, xs', by omega, by go_num, HXS, HJ⟩
      ·obtain rfl : x = w := by omega
       have c2 : decide ((x : Int) < (x : Int)) = false := decide_eq_false (by omega)
       have HXX : Aside0 (xs = gridTo G x ((y + 1) * x)) := ⟨by rw [HX.out, Nat.succ_mul]⟩
       clear HX
       go_wp2
       go_roundw
       case measure => simp [intOf]; omega
       case rel => exact ⟨y + 1, v, xs, by omega, by go_num, HXX, HJ⟩
    ·obtain rfl : y = h := by omega
     have c2 : decide ((y : Int) < (y : Int)) = false := decide_eq_false (by omega)
     obtain ⟨A3, c3, hv, hc3, hC3⟩ := Kd.R_reads HJ.out.1
     obtain ⟨n3, hn3⟩ : ∃ n3, ys.length = n3 := ⟨_, rfl⟩
     rw [hn3] at hv
     subst hv
     obtain ⟨hR, hP, hB⟩ := HJ.out
     have hGR := blk_below HR0.out hB
     have p0 := (blk_cell hP 0).trans rfl
     have p1 := (blk_cell hP 1).trans rfl
     have p2 := (blk_cell hP 2).trans rfl
     have r0 := (blk_cell hGR 0).trans rfl
     have r1 := (blk_cell hGR 1).trans rfl
     have r2 := (blk_cell hGR 2).trans rfl
     have f0 := blk_frozen hGR 0
     have f1 := blk_frozen hGR 1
     have f2 := blk_frozen hGR 2
     have HR := Aside0.mk hR
     have HG := Aside0.mk hGR
     have HB := Aside0.mk hB
     clear hR hP hGR hB hc3 hC3 hn3 HJ
     go_wp2
     obtain ⟨w5, hw5⟩ : ∃ w5, w5 = ((wr.setCell ⟨gR, 0, none⟩ (.int .i64 (w : Int))).setCell ⟨gR, 1, none⟩ (.int .i64 (y : Int))).setCell ⟨gR, 2, none⟩ (.slice A3 n3 c3) := ⟨_, rfl⟩
     rw [← hw5]
     obtain ⟨hG5, hst5, hbl5⟩ := put3 HG.out hw5
     have e5 : ys = resZ S W H w y p := by rw [HYY.out, HGF.out]; unfold resZ; rw [HMID.out]
     refine bodyPost_ret (results_cell_row rfl _ _ gR 25 #[.int .i64 (w : Int), .int .i64 (y : Int), .slice A3 n3 c3] (0, 0) _ rfl hG5 Try.underlying25 rfl (by kernel_rfl)) rfl ?_
     exact ⟨_, rfl, by rw [← e5]; exact Kd.R_lower (Kd.R_mono (Kd.R_move (Kd.R_types HR.out HG.out (by decide)) (fun k hk => hst5 k hk.2)) (fun _ _ => trivial)) HB0.out.size, (below_step HB0.out HB.out).trans (hbl5 _ GR.out)⟩
end Go.Proofs.Ytodlgdpkadkjjaa.A
end
section
set_option linter.unusedVariables false
set_option linter.unusedSimpArgs false
namespace Go.Proofs.Ytodlgdpkadkjjaa.A
open Go.RowKit Go.Shelf Go.Proofs.YtodlgdpkadkjjaaW.PrintWords Go.Proofs.YtodlgdpkadkjjaaW.PrintLast Go.Proofs.YtodlgdpkadkjjaaW.PrintMore Go.Proofs.Ytodlgdpkadkjjaa.PPyramidLevels

theorem ret_int {k : IntKind} {a b : Int} (h : a = b) : Ending.returned (.int k a) = .returned (.int k b) := by rw [h]
def key (d : Nat) : Nat := if d < 2147483648 then d + 2147483648 else 4294967295 - d
def fromKey (z : Nat) : Nat := if 2147483648 ≤ z then z - 2147483648 else 4294967295 - z
theorem key_lt {d : Nat} (h : d < 4294967296) : key d < 4294967296 := by unfold key; split <;> omega
theorem fromKey_lt {d : Nat} (h : d < 4294967296) : fromKey d < 4294967296 := by unfold fromKey; split <;> omega
theorem key_cast {d : Nat} (h : d < 4294967296) : ((key d : Nat) : Int) = if (d : Int) < 2147483648 then (d : Int) + 2147483648 else 4294967295 - (d : Int) := by
 unfold key
 by_cases h1 : d < 2147483648
 ·rw [if_pos h1, if_pos (by omega)]; omega
 ·rw [if_neg h1, if_neg (by omega)]; omega
theorem fromKey_cast {d : Nat} (h : d < 4294967296) : ((fromKey d : Nat) : Int) = if 2147483648 ≤ (d : Int) then (d : Int) - 2147483648 else 4294967295 - (d : Int) := by
 unfold fromKey
 by_cases h1 : 2147483648 ≤ d
 ·rw [if_pos h1, if_pos (by omega)]; omega
 ·rw [if_neg h1, if_neg (by omega)]; omega
theorem Key_int (d : Int) (w : World) (h0 : 0 ≤ d) (h : d < 4294967296) : Calls Try.prog 62 #[.int .u32 d] w fun e w' => e = .returned (.int .u32 (if d < 2147483648 then d + 2147483648 else 4294967295 - d)) ∧ w = w' := by
 by_cases h1 : d < 2147483648
 ·rw [if_pos h1]
  go_enter Try.func62, Try.ntmps62
  go_wp2
  go_ret
  exact ⟨ret_int (by first | rfl | omega), rfl⟩
 ·rw [if_neg h1]
  go_enter Try.func62, Try.ntmps62
  go_wp2
  go_ret
  exact ⟨ret_int (by first | rfl | omega | (simp; done)), rfl⟩
theorem Key_calls (d : Nat) (w : World) (h : d < 4294967296) : Calls Try.prog 62 #[.int .u32 d] w fun e w' => e = .returned (.int .u32 (key d)) ∧ w = w' :=
 (Key_int d w (by omega) (by omega)).mono fun e w' ⟨h1, h2⟩ => ⟨h1.trans (ret_int (key_cast h).symm), h2⟩
theorem FromKey_int (d : Int) (w : World) (h0 : 0 ≤ d) (h : d < 4294967296) : Calls Try.prog 66 #[.int .u32 d] w fun e w' => e = .returned (.int .u32 (if 2147483648 ≤ d then d - 2147483648 else 4294967295 - d)) ∧ w = w' := by
 by_cases h1 : 2147483648 ≤ d
 ·rw [if_pos h1]
  go_enter Try.func66, Try.ntmps66
  go_wp2
  go_ret
  exact ⟨ret_int (by first | rfl | omega), rfl⟩
 ·rw [if_neg h1]
  go_enter Try.func66, Try.ntmps66
  go_wp2
  go_ret
  exact ⟨ret_int (by first | rfl | omega | (simp; done)), rfl⟩
theorem FromKey_calls (d : Nat) (w : World) (h : d < 4294967296) : Calls Try.prog 66 #[.int .u32 d] w fun e w' => e = .returned (.int .u32 (fromKey d)) ∧ w = w' :=
 (FromKey_int d w (by omega) (by omega)).mono fun e w' ⟨h1, h2⟩ => ⟨h1.trans (ret_int (fromKey_cast h).symm), h2⟩
def sizeB (x y : Int) : Bool := decide (1 ≤ x) && decide (1 ≤ y) && decide (x ≤ 1024) && decide (y ≤ 1024) && decide (x * y ≤ 65536)
theorem prod_bound {x y : Int} (h1 : 1 ≤ x) (h2 : 1 ≤ y) (h3 : x ≤ 1024) (h4 : y ≤ 1024) : 1 ≤ x * y ∧ x * y ≤ 1048576 := by
 have a : x * y ≤ 1024 * 1024 := Int.mul_le_mul h3 h4 (by omega) (by omega)
 have b : 1 * 1 ≤ x * y := Int.mul_le_mul h1 h2 (by omega) (by omega)
 omega
theorem size_calls (x y : Int) (w : World) : Calls Try.prog 59 #[.int .i64 x, .int .i64 y] w fun e w' => e = .returned (.bool (sizeB x y)) ∧ w = w' := by
 have main : ∀ b1 b2 b3 b4 b5 : Bool, decide (1 ≤ x) = b1 → decide (1 ≤ y) = b2 → decide (x ≤ 1024) = b3 → decide (y ≤ 1024) = b4 → decide (x * y ≤ 65536) = b5 → (b1 = true → b2 = true → b3 = true → b4 = true → wrap64 (x * y) = x * y) → Calls Try.prog 59 #[.int .i64 x, .int .i64 y] w fun e w' => e = .returned (.bool (b1 && b2 && b3 && b4 && b5)) ∧ w = w' := by
  intro b1 b2 b3 b4 b5 t1 t2 t3 t4 t5 hw
  cases b1 <;> cases b2 <;> cases b3 <;> cases b4 <;> (
   (first | have hw' := hw rfl rfl rfl rfl | skip)
   clear hw
   go_enter Try.func59, Try.ntmps59
   go_wp2
   go_ret
   exact ⟨rfl, rfl⟩)
 refine main _ _ _ _ _ rfl rfl rfl rfl rfl ?_
 intro h1 h2 h3 h4
 have := prod_bound (of_decide_eq_true h1) (of_decide_eq_true h2) (of_decide_eq_true h3) (of_decide_eq_true h4)
 unfold wrap64
 omega
theorem rSize_calls (x y : Int) (w : World) : Calls Try.prog 49 #[.int .i64 x, .int .i64 y] w fun e w' => e = .returned (.bool (sizeB x y)) ∧ w = w' := by
 have main : ∀ b1 b2 b3 b4 b5 : Bool, decide (1 ≤ x) = b1 → decide (1 ≤ y) = b2 → decide (x ≤ 1024) = b3 → decide (y ≤ 1024) = b4 → decide (x * y ≤ 65536) = b5 → (b1 = true → b2 = true → b3 = true → b4 = true → wrap64 (x * y) = x * y) → Calls Try.prog 49 #[.int .i64 x, .int .i64 y] w fun e w' => e = .returned (.bool (b1 && b2 && b3 && b4 && b5)) ∧ w = w' := by
  intro b1 b2 b3 b4 b5 t1 t2 t3 t4 t5 hw
  cases b1 <;> cases b2 <;> cases b3 <;> cases b4 <;> (
   (first | have hw' := hw rfl rfl rfl rfl | skip)
   clear hw
   go_enter Try.func49, Try.ntmps49
   go_wp2
   go_ret
   exact ⟨rfl, rfl⟩)
 refine main _ _ _ _ _ rfl rfl rfl rfl rfl ?_
 intro h1 h2 h3 h4
 have := prod_bound (of_decide_eq_true h1) (of_decide_eq_true h2) (of_decide_eq_true h3) (of_decide_eq_true h4)
 unfold wrap64
 omega
theorem sizeB_true {x y : Int} (h : sizeB x y = true) : 1 ≤ x ∧ 1 ≤ y ∧ x ≤ 1024 ∧ y ≤ 1024 ∧ x * y ≤ 65536 := by
 unfold sizeB at h
 simp only [Bool.and_eq_true, decide_eq_true_eq] at h
 exact ⟨h.1.1.1.1, h.1.1.1.2, h.1.1.2, h.1.2, h.2⟩
/-- the error of a plane so wide, so high, of so many samples -/
def checkE (x y : Int) (n : Nat) : Nat := if sizeB x y = true then (if (n : Int) = x * y then 0 else 51) else 50
theorem Check_calls (x y : Int) (A : Option Addr) (n cap : Nat) (w : World) (hn : n < 9223372036854775808) : Calls Try.prog 51 #[.agg #[.int .i64 x, .int .i64 y, .slice A n cap]] w fun e w' => e = .returned (.int .i64 (checkE x y n)) ∧ Below w.heap.size w w' := by
 by_cases hs : sizeB x y = true
 ·have hb := sizeB_true hs
  have hp := prod_bound hb.1 hb.2.1 hb.2.2.1 hb.2.2.2.1
  have hw : wrap64 (x * y) = x * y := by unfold wrap64; omega
  have hw2 : IntKind.i64.wrap (x * y) = x * y := by simp only [IntKind.wrap_i64]; omega
  have HS := Aside0.mk hs
  by_cases hc : (n : Int) = x * y
  ·have t1 : ((n : Int) != x * y) = false := by rw [bne_eq_false_iff_eq]; exact hc
   have he : Aside0 (checkE x y n = 0) := ⟨by unfold checkE; rw [if_pos hs, if_pos hc]⟩
   clear hs hc hp hb
   go_enter Try.func51, Try.ntmps51
   go_wp2_with (go_at_call 59; refine (size_calls _ _ _).mono ?_; rw [HS.out]; rintro e w1 ⟨rfl, rfl⟩)
   go_ret
   exact ⟨by rw [he.out]; rfl, (Below.refl _ _).alloc (Nat.le_refl _) _⟩
  ·have t1 : ((n : Int) != x * y) = true := by rw [bne_iff_ne]; exact hc
   have he : Aside0 (checkE x y n = 51) := ⟨by unfold checkE; rw [if_pos hs, if_neg hc]⟩
   clear hs hc hp hb
   go_enter Try.func51, Try.ntmps51
   go_wp2_with (go_at_call 59; refine (size_calls _ _ _).mono ?_; rw [HS.out]; rintro e w1 ⟨rfl, rfl⟩)
   go_ret
   exact ⟨by rw [he.out]; rfl, (Below.refl _ _).alloc (Nat.le_refl _) _⟩
 ·have hs' : sizeB x y = false := by simpa using hs
  have HS := Aside0.mk hs'
  have he : Aside0 (checkE x y n = 50) := ⟨by unfold checkE; rw [if_neg hs]⟩
  clear hs hs'
  go_enter Try.func51, Try.ntmps51
  go_wp2_with (go_at_call 59; refine (size_calls _ _ _).mono ?_; rw [HS.out]; rintro e w1 ⟨rfl, rfl⟩)
  go_ret
  exact ⟨by rw [he.out]; rfl, (Below.refl _ _).alloc (Nat.le_refl _) _⟩
theorem rCheck_calls (x y : Int) (A : Option Addr) (n cap : Nat) (w : World) (hn : n < 9223372036854775808) : Calls Try.prog 44 #[.agg #[.int .i64 x, .int .i64 y, .slice A n cap]] w fun e w' => e = .returned (.int .i64 (checkE x y n)) ∧ Below w.heap.size w w' := by
 by_cases hs : sizeB x y = true
 ·have hb := sizeB_true hs
  have hp := prod_bound hb.1 hb.2.1 hb.2.2.1 hb.2.2.2.1
  have hw : wrap64 (x * y) = x * y := by unfold wrap64; omega
  have hw2 : IntKind.i64.wrap (x * y) = x * y := by simp only [IntKind.wrap_i64]; omega
  have HS := Aside0.mk hs
  by_cases hc : (n : Int) = x * y
  ·have t1 : ((n : Int) != x * y) = false := by rw [bne_eq_false_iff_eq]; exact hc
   have he : Aside0 (checkE x y n = 0) := ⟨by unfold checkE; rw [if_pos hs, if_pos hc]⟩
   clear hs hc hp hb
   go_enter Try.func44, Try.ntmps44
   go_wp2_with (go_at_call 49; refine (rSize_calls _ _ _).mono ?_; rw [HS.out]; rintro e w1 ⟨rfl, rfl⟩)
   go_ret
   exact ⟨by rw [he.out]; rfl, (Below.refl _ _).alloc (Nat.le_refl _) _⟩
  ·have t1 : ((n : Int) != x * y) = true := by rw [bne_iff_ne]; exact hc
   have he : Aside0 (checkE x y n = 51) := ⟨by unfold checkE; rw [if_pos hs, if_neg hc]⟩
   clear hs hc hp hb
   go_enter Try.func44, Try.ntmps44
   go_wp2_with (go_at_call 49; refine (rSize_calls _ _ _).mono ?_; rw [HS.out]; rintro e w1 ⟨rfl, rfl⟩)
   go_ret
   exact ⟨by rw [he.out]; rfl, (Below.refl _ _).alloc (Nat.le_refl _) _⟩
 ·have hs' : sizeB x y = false := by simpa using hs
  have HS := Aside0.mk hs'
  have he : Aside0 (checkE x y n = 50) := ⟨by unfold checkE; rw [if_neg hs]⟩
  clear hs hs'
  go_enter Try.func44, Try.ntmps44
  go_wp2_with (go_at_call 49; refine (rSize_calls _ _ _).mono ?_; rw [HS.out]; rintro e w1 ⟨rfl, rfl⟩)
  go_ret
  exact ⟨by rw [he.out]; rfl, (Below.refl _ _).alloc (Nat.le_refl _) _⟩
theorem w64n {n : Nat} (h1 : n < 9223372036854775808) : wrap64 (n : Int) = (n : Int) := w64 (by omega) (by omega)
/-- a plane that may be -/
structure Pl where
 w : Nat
 h : Nat
 s : List Nat
def Pl.ok (p : Pl) : Prop := 0 < p.w ∧ 0 < p.h ∧ p.w ≤ 1024 ∧ p.h ≤ 1024 ∧ p.w * p.h ≤ 65536 ∧ p.s.length = p.w * p.h ∧ ∀ i, gt p.s i < 4294967296
theorem checkE_zero {x y : Int} {n : Nat} (h : checkE x y n = 0) : ∃ W H : Nat, x = W ∧ y = H ∧ 0 < W ∧ 0 < H ∧ W ≤ 1024 ∧ H ≤ 1024 ∧ W * H ≤ 65536 ∧ n = W * H := by
 unfold checkE at h
 by_cases hs : sizeB x y = true
 ·rw [if_pos hs] at h
  obtain ⟨h1, h2, h3, h4, h5⟩ := sizeB_true hs
  by_cases hn : (n : Int) = x * y
  ·obtain ⟨W, rfl⟩ : ∃ W : Nat, x = W := ⟨x.toNat, by omega⟩
   obtain ⟨H, rfl⟩ : ∃ H : Nat, y = H := ⟨y.toNat, by omega⟩
   refine ⟨W, H, rfl, rfl, by omega, by omega, by omega, by omega, ?_, ?_⟩
   ·have : ((W * H : Nat) : Int) ≤ 65536 := by simpa using h5
    omega
   ·have : (n : Int) = ((W * H : Nat) : Int) := by simpa using hn
    omega
  ·rw [if_neg hn] at h; exact absurd h (by decide)
 ·rw [if_neg hs] at h; exact absurd h (by decide)
theorem gt_of_ge {a : List Nat} {i : Nat} (h : a.length ≤ i) : gt a i = 0 := by
 unfold gt; rw [List.getD_eq_getElem?_getD, List.getElem?_eq_none h]; rfl
theorem gt_lt_of {l : List Nat} {m : Nat} (hm : 0 < m) (h : ∀ x ∈ l, x < m) (i : Nat) : gt l i < m := by
 unfold gt
 rw [List.getD_eq_getElem?_getD]
 by_cases hi : i < l.length
 ·rw [List.getElem?_eq_getElem hi]; exact h _ (List.getElem_mem hi)
 ·rw [List.getElem?_eq_none (by omega)]; exact hm
theorem mem_lt_of {l : List Nat} {m : Nat} (h : ∀ i, gt l i < m) : ∀ x ∈ l, x < m := by
 intro x hx
 obtain ⟨i, hi, rfl⟩ := List.getElem_of_mem hx
 have := h i
 unfold gt at this
 rwa [List.getD_eq_getElem?_getD, List.getElem?_eq_getElem hi] at this
theorem prod_small {a b : Nat} (ha : a ≤ 1024) (hb : b ≤ 1024) : a * b ≤ 1048576 := Nat.le_trans (Nat.mul_le_mul ha hb) (by decide)
theorem idx_lt {j i q h n : Nat} (hn : n = q * h) (hj : j < h) (hi : i < q) : j * q + i < n := by
 have := Nat.mul_le_mul (show j + 1 ≤ h from hj) (Nat.le_refl q)
 rw [Nat.succ_mul] at this
 rw [hn, Nat.mul_comm q h]
 omega
theorem rd_ext {a b : List Int} (hl : a.length = b.length) (h : ∀ j : Nat, j < a.length → YtodlgdpkadkjjaaW.PrintWords.rd a (j : Int) = YtodlgdpkadkjjaaW.PrintWords.rd b (j : Int)) : a = b := by
 refine List.ext_getElem hl (fun j h1 h2 => ?_)
 have := h j h1
 unfold YtodlgdpkadkjjaaW.PrintWords.rd at this
 rw [Int.toNat_natCast, List.getD_eq_getElem?_getD, List.getD_eq_getElem?_getD, List.getElem?_eq_getElem h1, List.getElem?_eq_getElem h2] at this
 exact this
theorem words_l {a b : List Int} (hl : a.length = b.length) (hm : a.length < 4611686018427387904) : ∀ (d i k : Nat), i + d = a.length → d < k → (∀ j : Nat, j < i → YtodlgdpkadkjjaaW.PrintWords.rd a (j : Int) = YtodlgdpkadkjjaaW.PrintWords.rd b (j : Int)) → halidehelp_Words.l0 k a b (i : Int) = some (decide (a = b)) := by
 intro d
 induction d with
 | zero =>
  intro i k hi hk he
  obtain ⟨k, rfl⟩ : ∃ m, k = m + 1 := ⟨k - 1, by omega⟩
  unfold halidehelp_Words.l0
  rw [if_neg (by omega), rd_ext hl (fun j hj => he j (by omega))]
  simp
 | succ d ih =>
  intro i k hi hk he
  obtain ⟨k, rfl⟩ : ∃ m, k = m + 1 := ⟨k - 1, by omega⟩
  unfold halidehelp_Words.l0
  rw [if_pos (by omega), if_pos (by omega), if_pos (by omega)]
  by_cases h : YtodlgdpkadkjjaaW.PrintWords.rd a (i : Int) = YtodlgdpkadkjjaaW.PrintWords.rd b (i : Int)
  ·rw [if_pos h, w64 (n := (i : Int) + 1) (by omega) (by omega)]
   exact ih (i + 1) k (by omega) (by omega) (fun j hj => by
    by_cases hj2 : j < i
    ·exact he j hj2
    ·obtain rfl : j = i := by omega
     exact h)
  ·rw [if_neg h]
   have : a ≠ b := fun e => h (by rw [e])
   simp [this]
theorem words_f {a b : List Int} (k : Nat) (hk : a.length < k) (hm : a.length < 4611686018427387904) : halidehelp_Words.f k a b = some (decide (a = b)) := by
 unfold halidehelp_Words.f
 by_cases h : a.length = b.length
 ·rw [if_pos (by omega)]
  exact words_l h hm a.length 0 k (by omega) hk (fun j hj => absurd hj (Nat.not_lt_zero _))
 ·rw [if_neg (by omega)]
  have : a ≠ b := fun e => h (by rw [e])
  simp [this]
theorem words_nat (A B : Option Addr) (c d : Nat) (a b : List Nat) (w : World) (hA : (nat .u32).C w A a.length a) (hB : (nat .u32).C w B b.length b) (hc : a.length ≤ c) (hd : b.length ≤ d) (hl : a.length < 4611686018427387904) :
    Calls Try.prog 55 #[.slice A a.length c, .slice B b.length d] w fun e w' => e = .returned (.bool (decide (a = b))) ∧ Drawn0 w w' := by
 have h := halidehelp_Words.calls (a.length + 1) A c (ints a) B d (ints b) (decide (a = b)) w (by rw [ints_length]; exact C_ints hA) (by rw [ints_length]; exact hc) (by rw [ints_length]; exact C_ints hB) (by rw [ints_length]; exact hd) (by
  rw [words_f _ (by rw [ints_length]; omega) (by rw [ints_length]; exact hl)]
  congr 1
  by_cases h : a = b
  ·rw [h]; simp
  ·have h2 : ints a ≠ ints b := fun e => h (ints_inj e)
   simp [h, h2])
 rw [ints_length, ints_length] at h
 exact h
theorem plane_f {x y u v : Int} {a b : List Int} (k : Nat) (hk : a.length < k) (hm : a.length < 4611686018427387904) : halidehelp_Plane.f k x y a u v b = some (decide (x = u ∧ y = v ∧ a = b)) := by
 unfold halidehelp_Plane.f
 rw [words_f k hk hm]
 by_cases h1 : x = u
 ·rw [if_pos h1]
  by_cases h2 : y = v
  ·rw [if_pos h2]; simp [h1, h2]
  ·rw [if_neg h2]; simp [h2]
 ·rw [if_neg h1]; simp [h1]
theorem plane_nat (A B : Option Addr) (c d : Nat) (x y u v : Nat) (a b : List Nat) (w : World) (hA : (nat .u32).C w A a.length a) (hB : (nat .u32).C w B b.length b) (hc : a.length ≤ c) (hd : b.length ≤ d) (hl : a.length < 4611686018427387904) :
    Calls Try.prog 18 #[.agg #[.int .i64 (x : Int), .int .i64 (y : Int), .slice A a.length c], .agg #[.int .i64 (u : Int), .int .i64 (v : Int), .slice B b.length d]] w fun e w' => e = .returned (.bool (decide (x = u ∧ y = v ∧ a = b))) ∧ Below w.heap.size w w' := by
 have h := halidehelp_Plane.calls (a.length + 1) (x : Int) (y : Int) A c (ints a) (u : Int) (v : Int) B d (ints b) (decide (x = u ∧ y = v ∧ a = b)) w (by rw [ints_length]; exact C_ints hA) (by rw [ints_length]; exact hc) (by rw [ints_length]; exact C_ints hB) (by rw [ints_length]; exact hd) (by
  rw [plane_f _ (by rw [ints_length]; omega) (by rw [ints_length]; exact hl)]
  congr 1
  rw [decide_eq_decide]
  constructor
  ·rintro ⟨h1, h2, h3⟩; exact ⟨by omega, by omega, ints_inj h3⟩
  ·rintro ⟨rfl, rfl, rfl⟩; exact ⟨rfl, rfl, rfl⟩)
 rw [ints_length, ints_length] at h
 exact h
theorem Pl.ok.checkE {p : Pl} (h : p.ok) : checkE (p.w : Int) (p.h : Int) p.s.length = 0 := by
 obtain ⟨h1, h2, h3, h4, h5, h6, h7⟩ := h
 unfold A.checkE
 have h8 : sizeB (p.w : Int) (p.h : Int) = true := by
  unfold sizeB
  simp only [Bool.and_eq_true, decide_eq_true_eq]
  refine ⟨⟨⟨⟨by omega, by omega⟩, by omega⟩, by omega⟩, ?_⟩
  have : ((p.w * p.h : Nat) : Int) ≤ 65536 := by omega
  simpa using this
 rw [if_pos h8, if_pos (by rw [h6]; simp)]
end Go.Proofs.Ytodlgdpkadkjjaa.A
end
section
set_option linter.unusedVariables false
set_option linter.unusedSimpArgs false
namespace Go.Proofs.Ytodlgdpkadkjjaa.A
open Go.RowKit Go.Shelf Go.Proofs.YtodlgdpkadkjjaaW.PrintWords Go.Proofs.YtodlgdpkadkjjaaW.PrintLast Go.Proofs.YtodlgdpkadkjjaaW.PrintMore Go.Proofs.Ytodlgdpkadkjjaa.PPyramidLevels

/-- calls of a function value tell F at places -/
def Tells (f : FuncId) (caps : Array Value) (F : Nat → Nat → Nat) (W H : Nat) (w : World) : Prop :=
 ∀ w1, Below w.heap.size w w1 → ∀ x y : Nat, x < W → y < H → Calls Try.prog f (#[.int .i64 (x : Int), .int .i64 (y : Int)] ++ caps) w1 fun e w2 => e = .returned (.int .u32 ((F x y : Nat) : Int)) ∧ Below w1.heap.size w1 w2
def Mid (w : World) (gm gr W HH : Nat) (fv v0 : Value) (gp : Nat) (w1 : World) : Prop :=
 (nat .u32).R 50 w1 w.heap.size (fun _ => True) v0 [] ∧ w1.heap[gp]? = some (.cells #[.int .i64 0, .int .i64 0, .slice none 0 0] 25 (0, 0)) ∧ w1.heap[gm]? = some (.cells #[.int .i64 (W : Int), .int .i64 (HH : Int), fv] 98 (0, 0)) ∧ w1.heap[gr]? = some (.cells #[.int .i64 0, .int .i64 0, .slice none 0 0] 25 (0, 0)) ∧ Below w.heap.size w w1 ∧ (w.heap.size ≤ gp ∧ gp ≠ gr ∧ gp ≠ gm)
section
variable {w X : World} {gm gr W HH : Nat} {fv : Value}
theorem alloc_size (X : World) (o : Obj) : (X.alloc o).heap.size = X.heap.size + 1 := by
 have h := blk_lt (blk_new X (Obj.cells #[] 0 (0, 0)))
 simp
theorem part_fin1 {g9 g11 : Nat} (D1 : X.heap[gm]? = some (.cells #[.int .i64 (W : Int), .int .i64 (HH : Int), fv] 98 (0, 0))) (D2 : X.heap[gr]? = some (.cells #[.int .i64 0, .int .i64 0, .slice none 0 0] 25 (0, 0))) (DB : Below w.heap.size w X) (hn : W * HH ≤ 1048576)
    (h9 : g9 = X.heap.size) (h11 : g11 = (X.alloc (.cells (madeCells (Value.int .u32 0).cells (W * HH)) 50 (0, 0))).heap.size) :
    Mid w gm gr W HH fv (.slice (some ⟨g9, 0, none⟩) 0 (W * HH)) g11 ((X.alloc (.cells (madeCells (Value.int .u32 0).cells (W * HH)) 50 (0, 0))).alloc (.cells #[.int .i64 0, .int .i64 0, .slice none 0 0] 25 (0, 0))) := by
 have h1 := blk_lt D1
 have h2 := blk_lt D2
 have h3 := DB.size
 have h4 := h11
 rw [alloc_size] at h4
 refine ⟨by rw [h9]; exact Kd.R_alloc (R_made0 (blk_new X _) (by omega) hn (size_made _ _)) _, by rw [h11]; exact blk_new _ _, blk_alloc (blk_alloc D1 _) _, blk_alloc (blk_alloc D2 _) _, below_alloc (below_alloc DB _) _, ?_⟩
 omega
theorem part_fin2 {g9 g11 : Nat} (D1 : X.heap[gm]? = some (.cells #[.int .i64 (W : Int), .int .i64 (HH : Int), fv] 98 (0, 0))) (D2 : X.heap[gr]? = some (.cells #[.int .i64 0, .int .i64 0, .slice none 0 0] 25 (0, 0))) (DB : Below w.heap.size w X) (hn : W * HH ≤ 1048576)
    (h9 : g9 = (X.alloc (.cells #[.int .i64 0, .int .i64 0, .slice none 0 0] 25 (0, 0))).heap.size) (h11 : g11 = X.heap.size) :
    Mid w gm gr W HH fv (.slice (some ⟨g9, 0, none⟩) 0 (W * HH)) g11 ((X.alloc (.cells #[.int .i64 0, .int .i64 0, .slice none 0 0] 25 (0, 0))).alloc (.cells (madeCells (Value.int .u32 0).cells (W * HH)) 50 (0, 0))) := by
 have h1 := blk_lt D1
 have h2 := blk_lt D2
 have h3 := DB.size
 have h4 := h9
 rw [alloc_size] at h4
 refine ⟨by rw [h9]; exact R_made0 (blk_new _ _) (by rw [alloc_size]; omega) hn (size_made _ _), by rw [h11]; exact blk_alloc (blk_new _ _) _, blk_alloc (blk_alloc D1 _) _, blk_alloc (blk_alloc D2 _) _, below_alloc (below_alloc DB _) _, ?_⟩
 omega
end
theorem grid_le {x y W HH : Nat} (hy : y < HH) (hx : x < W) : y * W + x < W * HH := idx_lt rfl hy hx
def MI (w : World) (gm gr gp W HH : Nat) (fv : Value) (w1 : World) (xs : List Nat) (A : Option Addr) (c : Nat) : Prop :=
 (nat .u32).R 50 w1 w.heap.size (fun _ => True) (.slice A xs.length c) xs ∧ w1.heap[gp]? = some (.cells #[.int .i64 (W : Int), .int .i64 (HH : Int), .slice A xs.length c] 25 (0, 0)) ∧ w1.heap[gm]? = some (.cells #[.int .i64 (W : Int), .int .i64 (HH : Int), fv] 98 (0, 0)) ∧ w1.heap[gr]? = some (.cells #[.int .i64 0, .int .i64 0, .slice none 0 0] 25 (0, 0)) ∧ Below w.heap.size w w1
theorem below_lift {w w1 : World} (h : Below w.heap.size w w1) : Below w.heap.size w w1 := h
set_option maxHeartbeats 4000000 in
set_option maxRecDepth 100000 in
theorem made_calls (f : FuncId) (fn : Func) (caps : Array Value) (F : Nat → Nat → Nat) (W HH : Nat) (w : World) (hf : Try.prog.funcs[f]? = some fn) (hname : (fn.name == "runtime.NumGoroutine") = false) (hbody : fn.body.isSome = true) (hWH : W * HH ≤ 1048576) (hW : W ≤ 1048576) (hH : HH ≤ 1048576) (hF : Tells f caps F W HH w) :
    Calls Try.prog 61 #[.agg #[.int .i64 (W : Int), .int .i64 (HH : Int), .func (.func f) #[] caps]] w fun e w' => ∃ v, e = .returned (.agg #[.int .i64 (W : Int), .int .i64 (HH : Int), v]) ∧ (nat .u32).R 50 w' w.heap.size (fun _ => True) v (gridTo F W (W * HH)) ∧ Below w.heap.size w w' := by
 have HF := Aside0.mk hF
 clear hF
 obtain ⟨fv, hfv⟩ : ∃ fv : Value, fv = .func (.func f) #[] caps := ⟨_, rfl⟩
 have hWH4 : 4 * (W * HH) ≤ 281474976710656 := by omega
 have hmul : IntKind.i64.wrap ((W : Int) * (HH : Int)) = ((W * HH : Nat) : Int) := by rw [← Int.natCast_mul]; simp only [IntKind.wrap_i64]; omega
 have hmul2 : wrap64 ((W : Int) * (HH : Int)) = ((W * HH : Nat) : Int) := by rw [← Int.natCast_mul]; exact w64n (by omega)
 obtain ⟨xs0, hxs0⟩ : ∃ xs0 : List Nat, xs0 = [] := ⟨_, rfl⟩
 rw [← hfv]
 have HFV := Aside0.mk hfv
 have HX0 := Aside0.mk hxs0
 clear hfv hxs0
 have hu31 := Try.underlying25
 go_enter Try.func61, Try.ntmps61
 go_wp2_with (first | ((with_reducible refine gate_dst (N := 1) rfl ?_); refine box_event ?hg (N := 1) ?hd (cs := #[.int .i64 (W : Int), .int .i64 (HH : Int), fv]) (t := 98) ?hr ?_; (case hd => rfl); (case hg => rfl); (case hr => first | (go_simp; done) | (go_simp; rfl)); intro gm hgm w1 hm1 hb1; have HM1 := Aside0.mk hm1; have HB1 := Aside0.mk hb1; have GM := Aside0.mk hgm; clear hm1 hb1 hgm) | ((with_reducible refine gate_dst (N := 2) rfl ?_); refine box_event ?hg (N := 2) ?hd (cs := #[.int .i64 0, .int .i64 0, .slice none 0 0]) (t := 25) ?hr ?_; (case hd => rfl); (case hg => rfl); (case hr => first | (go_simp; done) | (go_simp; rfl)); intro gr hgr w2 hm2 hb2; have HM2 := Aside0.mk (blk_below HM1.out hb2); have HR2 := Aside0.mk hm2; have HB2 := Aside0.mk (below_step HB1.out hb2); have GR := Aside0.mk (show w.heap.size ≤ gr by rw [hgr]; exact below_size HB1.out); clear hm2 hb2 hgr))
 have D1 := Aside0.mk (blk_drew HM2.out)
 have D2 := Aside0.mk (blk_drew HR2.out)
 have DB : Aside0 (Below w.heap.size w w2.drew) := ⟨below_drew1 HB2.out⟩
 clear HM2 HR2 HB2
 refine start_ (n := 13) (S := fun w' => w'.cell? ⟨gm, 0, none⟩ = some (.int .i64 (W : Int)) ∧ w'.cell? ⟨gm, 1, none⟩ = some (.int .i64 (HH : Int))) (ds := [12]) #[ff_,ff_,ff_,ff_,ff_,ff_,ff_,ff_,ff_,ff_,ff_,ff_,ff_] (by kernel_rfl) rfl rfl ⟨(blk_cell D1.out 0).trans rfl, (blk_cell D1.out 1).trans rfl⟩ (fun hHeld => ?_)
 generalize w2.drew = wd at *
 refine pure_ (i := 0) (N := some 6) (v := ?_) (a' := ?_) #[tt_,ff_,ff_,ff_,ff_,ff_,ff_,ff_,ff_,ff_,ff_,ff_,ff_] rfl rfl (by kernel_rfl) (fun _ _ _ h => h) (Or.inl ⟨by rfl, ?_⟩) ?_ ?_
 rotate_left
 ·intro w'
  go_simp
  with_reducible rfl
 rotate_left
 ·simp only [Act.put, List.setIfInBounds_toArray, List.set_cons_zero, List.set_cons_succ, i64_w, i32_w]
  rfl
 refine pure_ (i := 2) (N := some 8) (v := ?_) (a' := ?_) #[tt_,ff_,tt_,ff_,ff_,ff_,ff_,ff_,ff_,ff_,ff_,ff_,ff_] rfl rfl (by kernel_rfl) (fun _ _ _ h => h) (Or.inl ⟨by rfl, ?_⟩) ?_ ?_
 rotate_left
 ·intro w'
  go_simp
  with_reducible rfl
 rotate_left
 ·simp only [Act.put, List.setIfInBounds_toArray, List.set_cons_zero, List.set_cons_succ, i64_w, i32_w]
  rfl
 refine pure_ (i := 4) (N := some 10) (v := ?_) (a' := ?_) #[tt_,ff_,tt_,ff_,tt_,ff_,ff_,ff_,ff_,ff_,ff_,ff_,ff_] rfl rfl (by kernel_rfl) (fun _ _ _ h => h) (Or.inl ⟨by rfl, ?_⟩) ?_ ?_
 rotate_left
 ·intro w'
  go_simp
  with_reducible rfl
 rotate_left
 ·simp only [Act.put, List.setIfInBounds_toArray, List.set_cons_zero, List.set_cons_succ, i64_w, i32_w]
  rfl
 refine pure_ (i := 6) (N := some 12) (v := ?_) (a' := ?_) #[tt_,ff_,tt_,ff_,tt_,ff_,tt_,ff_,ff_,ff_,ff_,ff_,ff_] rfl rfl (by kernel_rfl) (fun _ _ _ h => h) (Or.inl ⟨by rfl, ?_⟩) ?_ ?_
 rotate_left
 ·intro w'
  go_simp
  with_reducible rfl
 rotate_left
 ·simp only [Act.put, List.setIfInBounds_toArray, List.set_cons_zero, List.set_cons_succ, i64_w, i32_w]
  rfl
 refine take_ (i := 1) (N := some 7) (v := ?_) (a' := ?_) #[tt_,tt_,tt_,ff_,tt_,ff_,tt_,ff_,ff_,ff_,ff_,ff_,ff_] rfl rfl (by kernel_rfl) (fun _ _ _ h => h) (Or.inl ⟨by rfl, ?_⟩) hHeld ?_ ?_
 rotate_left
 ·rintro w' ⟨s0, s1⟩
  go_simp
  with_reducible rfl
 rotate_left
 ·simp only [Act.put, List.setIfInBounds_toArray, List.set_cons_zero, List.set_cons_succ, i64_w, i32_w]
  rfl
 refine take_ (i := 3) (N := some 9) (v := ?_) (a' := ?_) #[tt_,tt_,tt_,tt_,tt_,ff_,tt_,ff_,ff_,ff_,ff_,ff_,ff_] rfl rfl (by kernel_rfl) (fun _ _ _ h => h) (Or.inl ⟨by rfl, ?_⟩) hHeld ?_ ?_
 rotate_left
 ·rintro w' ⟨s0, s1⟩
  go_simp
  with_reducible rfl
 rotate_left
 ·simp only [Act.put, List.setIfInBounds_toArray, List.set_cons_zero, List.set_cons_succ, i64_w, i32_w]
  rfl
 refine take_ (i := 5) (N := some 11) (v := ?_) (a' := ?_) #[tt_,tt_,tt_,tt_,tt_,tt_,tt_,ff_,ff_,ff_,ff_,ff_,ff_] rfl rfl (by kernel_rfl) (fun _ _ _ h => h) (Or.inl ⟨by rfl, ?_⟩) hHeld ?_ ?_
 rotate_left
 ·rintro w' ⟨s0, s1⟩
  go_simp
  with_reducible rfl
 rotate_left
 ·simp only [Act.put, List.setIfInBounds_toArray, List.set_cons_zero, List.set_cons_succ, i64_w, i32_w]
  rfl
 refine take_ (i := 7) (N := some 13) (v := ?_) (a' := ?_) #[tt_,tt_,tt_,tt_,tt_,tt_,tt_,tt_,ff_,ff_,ff_,ff_,ff_] rfl rfl (by kernel_rfl) (fun _ _ _ h => h) (Or.inl ⟨by rfl, ?_⟩) hHeld ?_ ?_
 rotate_left
 ·rintro w' ⟨s0, s1⟩
  go_simp
  with_reducible rfl
 rotate_left
 ·simp only [Act.put, List.setIfInBounds_toArray, List.set_cons_zero, List.set_cons_succ, i64_w, i32_w]
  rfl
 refine pure_ (i := 8) (N := some 14) (v := ?_) (a' := ?_) #[tt_,tt_,tt_,tt_,tt_,tt_,tt_,tt_,tt_,ff_,ff_,ff_,ff_] rfl rfl (by kernel_rfl) (fun _ _ _ h => h) (Or.inl ⟨by rfl, ?_⟩) ?_ ?_
 rotate_left
 ·intro w'
  go_simp
  with_reducible rfl
 rotate_left
 ·simp only [Act.put, List.setIfInBounds_toArray, List.set_cons_zero, List.set_cons_succ, i64_w, i32_w]
  rfl
 refine join_ (σ := Value × Nat) 1 #[tt_,tt_,tt_,tt_,tt_,tt_,tt_,tt_,tt_,tt_,tt_,tt_,ff_] (fun s => [(15, s.1), (16, .agg #[.int .i64 (W : Int), .int .i64 (HH : Int), s.1]), (3, .pointer (some ⟨s.2, 0, none⟩))]) (fun s w' => Mid w gm gr W HH fv s.1 s.2 w') ?_ ?_
 rotate_left
 ·intro hCont
  refine two_ (i := 9) (j := 11) (Ni := some 15) (Nj := some 3) #[tt_,tt_,tt_,tt_,tt_,tt_,tt_,tt_,tt_,tt_,ff_,ff_,ff_] #[tt_,tt_,tt_,tt_,tt_,tt_,tt_,tt_,tt_,ff_,ff_,tt_,ff_] rfl rfl rfl rfl (by kernel_rfl) (by decide) (by decide) (fun K hK => ?_) (fun K hK => ?_)
  ·skip
   refine make0_step (by rfl) rfl 23 50 _ _ rfl (W * HH) (by rfl) (by first | rfl | exact hmul) Try.underlying23 (.int .u32 0) 4 info50 hWH hWH4 ?_
   intro g9 hg9
   have Hg9 := Aside0.mk hg9
   clear hg9
   refine hK.out _ _ ⟨(blk_cell (blk_alloc D1.out _) 0).trans rfl, (blk_cell (blk_alloc D1.out _) 1).trans rfl⟩ (fun hHeld => ?_)
   clear hK K
   refine norm_ (a' := ?_) ?_ ?_
   rotate_left
   ·show Act.put _ (some 15) _ = _
    simp only [Act.put, List.setIfInBounds_toArray, List.set_cons_zero, List.set_cons_succ, i64_w, i32_w]
    rfl
   refine pure_ (i := 10) (N := some 16) (v := ?_) (a' := ?_) #[tt_,tt_,tt_,tt_,tt_,tt_,tt_,tt_,tt_,tt_,tt_,ff_,ff_] rfl rfl (by kernel_rfl) (fun _ _ _ h => h) (Or.inl ⟨by rfl, ?_⟩) ?_ ?_
   rotate_left
   ·intro w'
    go_simp
    with_reducible rfl
   rotate_left
   ·simp only [Act.put, List.setIfInBounds_toArray, List.set_cons_zero, List.set_cons_succ, i64_w, i32_w]
    rfl
   refine one_ (i := 11) (N := some 3) #[tt_,tt_,tt_,tt_,tt_,tt_,tt_,tt_,tt_,tt_,tt_,tt_,ff_] rfl rfl (by kernel_rfl) (by decide) (fun K hK => ?_)
   refine alloc_step (cs := #[.int .i64 0, .int .i64 0, .slice none 0 0]) (t := 25) (by rfl) rfl (by first | (go_simp; done) | (go_simp; rfl)) ?_
   intro g11 hg11
   have Hg11 := Aside0.mk hg11
   clear hg11
   refine hK.out _ _ ⟨(blk_cell (blk_alloc (blk_alloc D1.out _) _) 0).trans rfl, (blk_cell (blk_alloc (blk_alloc D1.out _) _) 1).trans rfl⟩ (fun hHeld => ?_)
   clear hK K
   refine norm_ (a' := ?_) ?_ ?_
   rotate_left
   ·show Act.put _ (some 3) _ = _
    simp only [Act.put, List.setIfInBounds_toArray, List.set_cons_zero, List.set_cons_succ, i64_w, i32_w]
    rfl
   exact norm_ (by rfl) (hCont (.slice (some ⟨g9, 0, none⟩) 0 (W * HH), g11) _ (part_fin1 D1.out D2.out DB.out hWH Hg9.out Hg11.out))
  ·skip
   refine alloc_step (cs := #[.int .i64 0, .int .i64 0, .slice none 0 0]) (t := 25) (by rfl) rfl (by first | (go_simp; done) | (go_simp; rfl)) ?_
   intro g11 hg11
   have Hg11 := Aside0.mk hg11
   clear hg11
   refine hK.out _ _ ⟨(blk_cell (blk_alloc D1.out _) 0).trans rfl, (blk_cell (blk_alloc D1.out _) 1).trans rfl⟩ (fun hHeld => ?_)
   clear hK K
   refine norm_ (a' := ?_) ?_ ?_
   rotate_left
   ·show Act.put _ (some 3) _ = _
    simp only [Act.put, List.setIfInBounds_toArray, List.set_cons_zero, List.set_cons_succ, i64_w, i32_w]
    rfl
   refine one_ (i := 9) (N := some 15) #[tt_,tt_,tt_,tt_,tt_,tt_,tt_,tt_,tt_,tt_,ff_,tt_,ff_] rfl rfl (by kernel_rfl) (by decide) (fun K hK => ?_)
   refine make0_step (by rfl) rfl 23 50 _ _ rfl (W * HH) (by rfl) (by first | rfl | exact hmul) Try.underlying23 (.int .u32 0) 4 info50 hWH hWH4 ?_
   intro g9 hg9
   have Hg9 := Aside0.mk hg9
   clear hg9
   refine hK.out _ _ ⟨(blk_cell (blk_alloc (blk_alloc D1.out _) _) 0).trans rfl, (blk_cell (blk_alloc (blk_alloc D1.out _) _) 1).trans rfl⟩ (fun hHeld => ?_)
   clear hK K
   refine norm_ (a' := ?_) ?_ ?_
   rotate_left
   ·show Act.put _ (some 15) _ = _
    simp only [Act.put, List.setIfInBounds_toArray, List.set_cons_zero, List.set_cons_succ, i64_w, i32_w]
    rfl
   refine pure_ (i := 10) (N := some 16) (v := ?_) (a' := ?_) #[tt_,tt_,tt_,tt_,tt_,tt_,tt_,tt_,tt_,tt_,tt_,tt_,ff_] rfl rfl (by kernel_rfl) (fun _ _ _ h => h) (Or.inl ⟨by rfl, ?_⟩) ?_ ?_
   rotate_left
   ·intro w'
    go_simp
    with_reducible rfl
   rotate_left
   ·simp only [Act.put, List.setIfInBounds_toArray, List.set_cons_zero, List.set_cons_succ, i64_w, i32_w]
    rfl
   exact norm_ (by rfl) (hCont (.slice (some ⟨g9, 0, none⟩) 0 (W * HH), g11) _ (part_fin2 D1.out D2.out DB.out hWH Hg9.out Hg11.out))
 rintro ⟨v0, gp⟩ w3 hMid
 obtain ⟨hR3, hP3, hM3, hG3, hB3, hpr⟩ := hMid
 simp only at hR3 hP3 hpr
 rw [← HX0.out] at hR3
 obtain ⟨A0, c0, rfl⟩ := Kd.R_slice hR3
 have R3 := Aside0.mk hR3
 have P3 := Aside0.mk hP3
 have M3 := Aside0.mk hM3
 have G3 := Aside0.mk hG3
 have B3 := Aside0.mk hB3
 have PR3 := Aside0.mk hpr
 have hHeld : w3.cell? ⟨gm, 0, none⟩ = some (.int .i64 (W : Int)) ∧ w3.cell? ⟨gm, 1, none⟩ = some (.int .i64 (HH : Int)) := ⟨(blk_cell M3.out 0).trans rfl, (blk_cell M3.out 1).trans rfl⟩
 have p0 := (blk_cell P3.out 0).trans rfl
 have p1 := (blk_cell P3.out 1).trans rfl
 have p2 := (blk_cell P3.out 2).trans rfl
 have f0 := blk_frozen P3.out 0
 have f1 := blk_frozen P3.out 1
 have f2 := blk_frozen P3.out 2
 clear hR3 hP3 hM3 hG3 hB3 hpr
 refine norm_ (a' := ?_) ?_ ?_
 rotate_left
 ·simp only [YtodlgdpkadkjjaaW.PrintLast.putAll, Act.put, List.setIfInBounds_toArray, List.set_cons_zero, List.set_cons_succ]
  rfl
 refine last_ (i := 12) (N := none) #[tt_,tt_,tt_,tt_,tt_,tt_,tt_,tt_,tt_,tt_,tt_,tt_,tt_] rfl rfl (by kernel_rfl) (by decide) (fun K hK => ?_)
 refine skip_ (w1 := ?_) (by rfl) rfl ?_ ?_
 rotate_left
 ·go_simp
  rfl
 refine hK.out _ _ ?_
 clear hK K
 refine done_ (by kernel_rfl) ?_
 obtain ⟨w4, hw4⟩ : ∃ w4, w4 = ((w3.setCell ⟨gp, 0, none⟩ (.int .i64 (W : Int))).setCell ⟨gp, 1, none⟩ (.int .i64 (HH : Int))).setCell ⟨gp, 2, none⟩ (.slice A0 xs0.length c0) := ⟨_, rfl⟩
 rw [← hw4]
 obtain ⟨hP4, hst4, hbl4⟩ := put3 P3.out hw4
 have MI4 : Aside0 (MI w gm gr gp W HH fv w4 xs0 A0 c0) := ⟨Kd.R_mono (Kd.R_move (Kd.R_types R3.out P3.out (by decide)) (fun k hk => hst4 k hk.2)) (fun _ _ => trivial), hP4, (hst4 gm (fun h => PR3.out.2.2 h.symm)).trans M3.out, (hst4 gr (fun h => PR3.out.2.1 h.symm)).trans G3.out, B3.out.trans (hbl4 _ PR3.out.1)⟩
 clear hw4 hP4 hst4 hbl4 p0 p1 p2 f0 f1 f2 hHeld R3 P3 M3 G3 B3 D1 D2 DB
 have z1 := (blk_cell MI4.out.2.2.1 1).trans rfl
 go_wp2
 clear z1
 go_loopw [19] (fun v wr => ∃ (y : Nat) (xs : List Nat) (A : Option Addr) (c : Nat), y ≤ HH ∧ v = .int .i64 (y : Int) ∧ Aside0 (xs = gridTo F W (y * W)) ∧ Aside0 (MI w gm gr gp W HH fv wr xs A c)) (fun v _ => HH - (intOf v).toNat)
 case atStart => exact ⟨0, xs0, A0, c0, Nat.zero_le _, rfl, ⟨by rw [HX0.out]; simp [gridTo]⟩, MI4⟩
 case round =>
  obtain ⟨y, xsy, Ay, cy, hy, rfl, HXY, HI⟩ := hrel
  by_cases hlt : y < HH
  ·have c1 : decide ((y : Int) < (HH : Int)) = true := decide_eq_true (by omega)
   have z0 := (blk_cell HI.out.2.2.1 0).trans rfl
   go_wp2
   clear z0
   go_loopw [24] (fun v wr2 => ∃ (x : Nat) (xs : List Nat) (A : Option Addr) (c : Nat), x ≤ W ∧ v = .int .i64 (x : Int) ∧ Aside0 (xs = gridTo F W (y * W + x)) ∧ Aside0 (MI w gm gr gp W HH fv wr2 xs A c)) (fun v _ => W - (intOf v).toNat)
   case atStart => exact ⟨0, xsy, Ay, cy, Nat.zero_le _, rfl, HXY, HI⟩
   case round =>
    clear HI HXY MI4
    obtain ⟨x, xs, A0, c0, hx, rfl, HX, HI⟩ := hrel
    by_cases hxl : x < W
    ·have c2 : decide ((x : Int) < (W : Int)) = true := decide_eq_true (by omega)
     go_wp2
     obtain ⟨hR, hP, hM, hG, hB⟩ := HI.out
     have R8 := Aside0.mk (Kd.R_drew hR)
     have P8 := Aside0.mk (blk_drew hP)
     have M8 : Aside0 (wr.drew.heap[gm]? = some (.cells #[.int .i64 (W : Int), .int .i64 (HH : Int), .func (.func f) #[] caps] 98 (0, 0))) := ⟨by rw [← HFV.out]; exact blk_drew hM⟩
     have G8 := Aside0.mk (blk_drew hG)
     have B8 := Aside0.mk (below_drew1 hB)
     have HL4 : Aside0 ((xs.length + 1) * 4 ≤ 140737488355328) := ⟨by rw [HX.out, gridTo_length]; have := grid_le hlt hxl; omega⟩
     obtain ⟨xs', hxs'⟩ : ∃ xs' : List Nat, xs' = xs ++ [F x y] := ⟨_, rfl⟩
     have HXS := Aside0.mk hxs'
     clear hxs' hR hP hM hG hB HI
     refine start_ (n := 11) (S := fun w' => w'.cell? ⟨gp, 2, none⟩ = some (.slice A0 xs.length c0) ∧ w'.cell? ⟨gm, 2, none⟩ = some (.func (.func f) #[] caps)) (ds := [10]) #[ff_,ff_,ff_,ff_,ff_,ff_,ff_,ff_,ff_,ff_,ff_] (by kernel_rfl) rfl rfl ⟨(blk_cell P8.out 2).trans rfl, (blk_cell M8.out 2).trans rfl⟩ (fun hHeld => ?_)
     refine pure_ (i := 0) (N := some 27) (v := ?_) (a' := ?_) #[tt_,ff_,ff_,ff_,ff_,ff_,ff_,ff_,ff_,ff_,ff_] rfl rfl (by kernel_rfl) (fun _ _ _ h => h) (Or.inl ⟨by rfl, ?_⟩) ?_ ?_
     rotate_left
     ·intro w'
      go_simp
      with_reducible rfl
     rotate_left
     ·simp only [Act.put, List.setIfInBounds_toArray, List.set_cons_zero, List.set_cons_succ, i64_w, i32_w]
      rfl
     refine pure_ (i := 2) (N := some 29) (v := ?_) (a' := ?_) #[tt_,ff_,tt_,ff_,ff_,ff_,ff_,ff_,ff_,ff_,ff_] rfl rfl (by kernel_rfl) (fun _ _ _ h => h) (Or.inl ⟨by rfl, ?_⟩) ?_ ?_
     rotate_left
     ·intro w'
      go_simp
      with_reducible rfl
     rotate_left
     ·simp only [Act.put, List.setIfInBounds_toArray, List.set_cons_zero, List.set_cons_succ, i64_w, i32_w]
      rfl
     refine pure_ (i := 4) (N := some 31) (v := ?_) (a' := ?_) #[tt_,ff_,tt_,ff_,tt_,ff_,ff_,ff_,ff_,ff_,ff_] rfl rfl (by kernel_rfl) (fun _ _ _ h => h) (Or.inl ⟨by rfl, ?_⟩) ?_ ?_
     rotate_left
     ·intro w'
      go_simp
      with_reducible rfl
     rotate_left
     ·simp only [Act.put, List.setIfInBounds_toArray, List.set_cons_zero, List.set_cons_succ, i64_w, i32_w]
      rfl
     refine pure_ (i := 5) (N := some 32) (v := ?_) (a' := ?_) #[tt_,ff_,tt_,ff_,tt_,tt_,ff_,ff_,ff_,ff_,ff_] rfl rfl (by kernel_rfl) (fun _ _ _ h => h) (Or.inl ⟨by rfl, ?_⟩) ?_ ?_
     rotate_left
     ·intro w'
      go_simp
      with_reducible rfl
     rotate_left
     ·simp only [Act.put, List.setIfInBounds_toArray, List.set_cons_zero, List.set_cons_succ, i64_w, i32_w]
      rfl
     refine take_ (i := 1) (N := some 28) (v := ?_) (a' := ?_) #[tt_,tt_,tt_,ff_,tt_,tt_,ff_,ff_,ff_,ff_,ff_] rfl rfl (by kernel_rfl) (fun _ _ _ h => h) (Or.inl ⟨by rfl, ?_⟩) hHeld ?_ ?_
     rotate_left
     ·rintro w' ⟨s0, s1⟩
      go_simp
      with_reducible rfl
     rotate_left
     ·simp only [Act.put, List.setIfInBounds_toArray, List.set_cons_zero, List.set_cons_succ, i64_w, i32_w]
      rfl
     refine take_ (i := 3) (N := some 30) (v := ?_) (a' := ?_) #[tt_,tt_,tt_,tt_,tt_,tt_,ff_,ff_,ff_,ff_,ff_] rfl rfl (by kernel_rfl) (fun _ _ _ h => h) (Or.inl ⟨by rfl, ?_⟩) hHeld ?_ ?_
     rotate_left
     ·rintro w' ⟨s0, s1⟩
      go_simp
      with_reducible rfl
     rotate_left
     ·simp only [Act.put, List.setIfInBounds_toArray, List.set_cons_zero, List.set_cons_succ, i64_w, i32_w]
      rfl
     refine one_ (i := 6) (N := some 33) #[tt_,tt_,tt_,tt_,tt_,tt_,tt_,ff_,ff_,ff_,ff_] rfl rfl (by kernel_rfl) (by decide) (fun K hK => ?_)
     refine goesV_ hf hname hbody #[.int .i64 (x : Int), .int .i64 (y : Int)] (by rfl) rfl rfl (by rfl) (by (try simp only [List.map_toArray, List.map_cons, List.map_nil]); rfl) ?_
     refine (HF.out _ (below_lift B8.out) x y hxl hlt).mono ?_
     rintro e w9 ⟨rfl, hb9⟩
     refine ⟨_, rfl, ?_⟩
     have P9 := Aside0.mk (blk_below P8.out hb9)
     have M9 := Aside0.mk (blk_below M8.out hb9)
     have G9 := Aside0.mk (blk_below G8.out hb9)
     have R9 := Aside0.mk (Kd.R_below R8.out hb9)
     have B9 := Aside0.mk (below_step B8.out hb9)
     clear hb9
     refine hK.out _ _ ⟨(blk_cell P9.out 2).trans rfl, (blk_cell M9.out 2).trans rfl⟩ (fun hHeld => ?_)
     clear hK K
     refine norm_ (a' := ?_) ?_ ?_
     rotate_left
     ·show Act.put _ (some 33) _ = _
      simp only [Act.put, List.setIfInBounds_toArray, List.set_cons_zero, List.set_cons_succ, i64_w, i32_w]
      rfl
     refine one_ (i := 7) (N := some 34) #[tt_,tt_,tt_,tt_,tt_,tt_,tt_,tt_,ff_,ff_,ff_] rfl rfl (by kernel_rfl) (by decide) (fun K hK => ?_)
     refine value_ (w1 := ?_) (v := ?_) (by rfl) rfl ?_ ?_
     rotate_left 2
     ·go_simp
      constructor
      ·rfl
      ·rfl
     refine hK.out _ _ ⟨(blk_cell (blk_alloc P9.out _) 2).trans rfl, (blk_cell (blk_alloc M9.out _) 2).trans rfl⟩ (fun hHeld => ?_)
     clear hK K
     refine norm_ (a' := ?_) ?_ ?_
     rotate_left
     ·show Act.put _ (some 34) _ = _
      simp only [Act.put, List.setIfInBounds_toArray, List.set_cons_zero, List.set_cons_succ, i64_w, i32_w]
      rfl
     refine one_ (i := 8) (N := some 35) #[tt_,tt_,tt_,tt_,tt_,tt_,tt_,tt_,tt_,ff_,ff_] rfl rfl (by kernel_rfl) (by decide) (fun K hK => ?_)
     refine Kd.R_append_step (nat .u32) (w0 := _) w.heap.size (by rfl) (.tmp 28) (.tmp 34) 23 50 (.int .u32 0) 4 rfl Try.underlying23 info50 rfl (by decide) (by decide) (.slice A0 xs.length c0) xs (F x y) [.int .u32 ((F x y : Nat) : Int)] (fun _ => True) (fun _ => False) rfl rfl ?aP (fun _ hk => hk.elim) (fun _ _ => trivial) (R9.out) (B9.out) ?aS ?aL ?_
     (case aP => exact rfl)
     (case aS => exact below_size B9.out)
     (case aL => exact HL4.out)
     intro v7 w7 hR7 hB7 hg7 hat7
     rw [← HXS.out] at hR7
     obtain ⟨A7, c7, rfl⟩ := Kd.R_slice hR7
     have R7 := Aside0.mk hR7
     have B7 := Aside0.mk hB7
     have P7 := Aside0.mk (blk_grown P9.out hg7 (Kd.R_ne R9.out P9.out (by decide)))
     have M7 := Aside0.mk (blk_grown M9.out hg7 (Kd.R_ne R9.out M9.out (by decide)))
     have G7 := Aside0.mk (blk_grown G9.out hg7 (Kd.R_ne R9.out G9.out (by decide)))
     have q2 := (blk_cell P7.out 2).trans rfl
     have fr2 := blk_frozen P7.out 2
     clear hR7 hB7 hg7 hat7
     refine hK.out _ _ ⟨(blk_cell P7.out 2).trans rfl, (blk_cell M7.out 2).trans rfl⟩ (fun hHeld => ?_)
     clear hK K
     refine norm_ (a' := ?_) ?_ ?_
     rotate_left
     ·show Act.put _ (some 35) _ = _
      simp only [Act.put, List.setIfInBounds_toArray, List.set_cons_zero, List.set_cons_succ, i64_w, i32_w]
      rfl
     refine pure_ (i := 9) (N := some 36) (v := ?_) (a' := ?_) #[tt_,tt_,tt_,tt_,tt_,tt_,tt_,tt_,tt_,tt_,ff_] rfl rfl (by kernel_rfl) (fun _ _ _ h => h) (Or.inl ⟨by rfl, ?_⟩) ?_ ?_
     rotate_left
     ·intro w'
      go_simp
      with_reducible rfl
     rotate_left
     ·simp only [Act.put, List.setIfInBounds_toArray, List.set_cons_zero, List.set_cons_succ, i64_w, i32_w]
      rfl
     refine last_ (i := 10) (N := none) #[tt_,tt_,tt_,tt_,tt_,tt_,tt_,tt_,tt_,tt_,tt_] rfl rfl (by kernel_rfl) (by decide) (fun K hK => ?_)
     refine skip_ (w1 := ?_) (by rfl) rfl ?_ ?_
     rotate_left
     ·go_simp
      rfl
     refine hK.out _ _ ?_
     clear hK K
     refine done_ (by kernel_rfl) ?_
     obtain ⟨w10, hw10⟩ : ∃ w10, w10 = w7.setCell ⟨gp, 2, none⟩ (.slice A7 xs'.length c7) := ⟨_, rfl⟩
     rw [← hw10]
     have P10 : w10.heap[gp]? = some (.cells #[.int .i64 (W : Int), .int .i64 (HH : Int), .slice A7 xs'.length c7] 25 (0, 0)) := by rw [hw10]; exact (blk_set P7.out 2 _).trans rfl
     have st10 : ∀ k, k ≠ gp → w10.heap[k]? = w7.heap[k]? := by rw [hw10]; exact fun k hk => Below.heap_setCell _ _ _ k hk
     have R10 : (nat .u32).R 50 w10 w.heap.size (fun _ => True) (.slice A7 xs'.length c7) xs' := Kd.R_mono (Kd.R_move (Kd.R_types R7.out P7.out (by decide)) (fun k hk => st10 k hk.2)) (fun _ _ => trivial)
     have B10 : Below w.heap.size w w10 := by rw [hw10]; exact B7.out.setCell (p := ⟨gp, 2, none⟩) PR3.out.1 _
     have M10 : w10.heap[gm]? = some (.cells #[.int .i64 (W : Int), .int .i64 (HH : Int), fv] 98 (0, 0)) := by rw [HFV.out]; exact (st10 gm (fun h => PR3.out.2.2 h.symm)).trans M7.out
     have G10 := (st10 gr (fun h => PR3.out.2.1 h.symm)).trans G7.out
     have HI : Aside0 (MI w gm gr gp W HH fv w10 xs' A7 c7) := ⟨R10, P10, M10, G10, B10⟩
     clear hw10 P10 st10 R10 B10 M10 G10 q2 fr2
     try go_wp2
     go_roundw
     case measure => simp [intOf]; omega
     case rel => exact ⟨x + 1, xs', A7, c7, by omega, by go_num, ⟨by rw [HXS.out, HX.out, ← Nat.add_assoc, gridTo_succ F hxl]⟩, HI⟩
    ·obtain rfl : W = x := by omega
     have c2 : decide ((W : Int) < (W : Int)) = false := decide_eq_false (by omega)
     go_wp2
     go_roundw
     case measure => simp [intOf]; omega
     case rel => exact ⟨y + 1, xs, A0, c0, by omega, by go_num, ⟨by rw [HX.out, Nat.succ_mul]⟩, HI⟩
  ·obtain rfl : HH = y := by omega
   have c1 : decide ((HH : Int) < (HH : Int)) = false := decide_eq_false (by omega)
   obtain ⟨hR, hP, hM, hG, hB⟩ := HI.out
   have p0 := (blk_cell hP 0).trans rfl
   have p1 := (blk_cell hP 1).trans rfl
   have p2 := (blk_cell hP 2).trans rfl
   have r0 := (blk_cell hG 0).trans rfl
   have r1 := (blk_cell hG 1).trans rfl
   have r2 := (blk_cell hG 2).trans rfl
   have f0 := blk_frozen hG 0
   have f1 := blk_frozen hG 1
   have f2 := blk_frozen hG 2
   have HR := Aside0.mk hR
   have HG := Aside0.mk hG
   have HB := Aside0.mk hB
   clear hR hP hM hG hB
   go_wp2
   obtain ⟨w5, hw5⟩ : ∃ w5, w5 = ((wr.setCell ⟨gr, 0, none⟩ (.int .i64 (W : Int))).setCell ⟨gr, 1, none⟩ (.int .i64 (HH : Int))).setCell ⟨gr, 2, none⟩ (.slice Ay xsy.length cy) := ⟨_, rfl⟩
   rw [← hw5]
   obtain ⟨hG5, hst5, hbl5⟩ := put3 HG.out hw5
   have e5 : xsy = gridTo F W (W * HH) := by rw [HXY.out, Nat.mul_comm]
   refine bodyPost_ret (results_cell_row rfl _ _ gr 25 #[.int .i64 (W : Int), .int .i64 (HH : Int), .slice Ay xsy.length cy] (0, 0) _ rfl hG5 Try.underlying25 rfl (by kernel_rfl)) rfl ?_
   exact ⟨.slice Ay xsy.length cy, rfl, by rw [← e5]; exact Kd.R_mono (Kd.R_move (Kd.R_types HR.out HG.out (by decide)) (fun k hk => hst5 k hk.2)) (fun _ _ => trivial), HB.out.trans (hbl5 _ GR.out)⟩
theorem of_calls (W H n c : Nat) (A : Option Addr) (w : World) :
    Calls Try.prog 74 #[.agg #[.int .i64 (W : Int), .int .i64 (H : Int), .slice A n c]] w fun e w' => ∃ g, e = .returned (.func (.func 81) #[] #[.pointer (some ⟨g, 0, none⟩)]) ∧ w.heap.size ≤ g ∧ w'.heap[g]? = some (.cells #[.int .i64 (W : Int), .int .i64 (H : Int), .slice A n c] 25 (0, 0)) ∧ Below w.heap.size w w' := by
 have hu31 := Try.underlying25
 have hmf : ∀ (fn : Fn) (first cap : Array Value) (w : World), (Instr.makeFunc fn first cap).run Try.prog w = .ok (.func fn first cap) w := fun _ _ _ _ => rfl
 go_enter Try.func74, Try.ntmps74
 go_wp2_with ((with_reducible refine gate_dst (N := 1) rfl ?_); refine box_event ?hg (N := 1) ?hd (cs := #[.int .i64 (W : Int), .int .i64 (H : Int), .slice A n c]) (t := 25) ?hr ?_; (case hd => rfl); (case hg => rfl); (case hr => first | (go_simp; done) | (go_simp; rfl)); intro gm hgm w1 hm1 hb1; have HM1 := Aside0.mk hm1; have HB1 := Aside0.mk hb1; have GM := Aside0.mk hgm; clear hm1 hb1 hgm)
 go_ret
 exact ⟨gm, rfl, by rw [GM.out]; exact Nat.le_refl _, HM1.out, HB1.out⟩
set_option maxHeartbeats 1000000 in
theorem of1_calls (W H n c x y g : Nat) (A : Option Addr) (xs : List Nat) (w : World) (hg : w.heap[g]? = some (.cells #[.int .i64 (W : Int), .int .i64 (H : Int), .slice A xs.length c] 25 (0, 0))) (hC : (nat .u32).C w A xs.length xs) (hi : y * W + x < xs.length) (hl : xs.length < 4611686018427387904) :
    Calls Try.prog 81 #[.int .i64 (x : Int), .int .i64 (y : Int), .pointer (some ⟨g, 0, none⟩)] w fun e w' => e = .returned (.int .u32 ((gt xs (y * W + x) : Nat) : Int)) ∧ w = w' := by
 have hu31 := Try.underlying25
 obtain ⟨ad, rfl, hc⟩ := C_nat hC _ hi
 obtain ⟨i, hie⟩ : ∃ i, i = y * W + x := ⟨_, rfl⟩
 rw [← hie] at hc hi ⊢
 have c0 := (blk_cell hg 0).trans rfl
 have c2 := (blk_cell hg 2).trans rfl
 have hyw : y * W ≤ i := by omega
 have hm1 : IntKind.i64.wrap ((y : Int) * (W : Int)) = ((y * W : Nat) : Int) := by rw [← Int.natCast_mul]; simp only [IntKind.wrap_i64]; omega
 have hm2 : IntKind.i64.wrap (((y * W : Nat) : Int) + (x : Int)) = (i : Int) := by simp only [IntKind.wrap_i64]; omega
 have hm3 : IntKind.i64.wrap ((y : Int) * (W : Int) + (x : Int)) = (i : Int) := by rw [← Int.natCast_mul]; exact hm2
 have hlt : (i : Int) < (xs.length : Int) := by omega
 clear hie hyw hl hg hC
 go_enter Try.func81, Try.ntmps81
 go_wp2
 go_ret
 exact ⟨rfl, rfl⟩
/-- a rectangle's places -/
def cropF (xs : List Nat) (W x0 y0 : Nat) (x y : Nat) : Nat := gt xs ((y0 + y) * W + (x0 + x))
def cropN (xs : List Nat) (W x0 y0 x1 y1 : Nat) : List Nat := gridTo (cropF xs W x0 y0) (x1 - x0) ((x1 - x0) * (y1 - y0))
set_option maxHeartbeats 1000000 in
theorem crop1_calls (W H n c x y x0 y0 x1 y1 g ga gr : Nat) (A : Option Addr) (xs : List Nat) (w : World) (hg : w.heap[g]? = some (.cells #[.int .i64 (W : Int), .int .i64 (H : Int), .slice A xs.length c] 25 (0, 0))) (hC : (nat .u32).C w A xs.length xs) (hi : (y0 + y) * W + (x0 + x) < xs.length) (hl : xs.length < 1048576) (hx : x0 + x < 1048576) (hy : y0 + y < 1048576)
    (ha : w.heap[ga]? = some (.cells #[.func (.func 81) #[] #[.pointer (some ⟨g, 0, none⟩)]] 96 (0, 0))) (hr : w.heap[gr]? = some (.cells #[.int .i64 (x0 : Int), .int .i64 (y0 : Int), .int .i64 (x1 : Int), .int .i64 (y1 : Int)] 95 (0, 0))) :
    Calls Try.prog 75 #[.int .i64 (x : Int), .int .i64 (y : Int), .pointer (some ⟨ga, 0, none⟩), .pointer (some ⟨gr, 0, none⟩)] w fun e w' => e = .returned (.int .u32 ((cropF xs W x0 y0 x y : Nat) : Int)) ∧ w = w' := by
 have hu31 := Try.underlying25
 have hu73 := Try.underlying95
 have a0 := (blk_cell ha 0).trans rfl
 have r0 := (blk_cell hr 0).trans rfl
 have r1 := (blk_cell hr 1).trans rfl
 have hm1 : IntKind.i64.wrap ((x0 : Int) + (x : Int)) = ((x0 + x : Nat) : Int) := by simp only [IntKind.wrap_i64]; omega
 have hm2 : IntKind.i64.wrap ((y0 : Int) + (y : Int)) = ((y0 + y : Nat) : Int) := by simp only [IntKind.wrap_i64]; omega
 have HG := Aside0.mk hg
 have HC := Aside0.mk hC
 have HI := Aside0.mk hi
 have HL := Aside0.mk (show xs.length < 4611686018427387904 by omega)
 obtain ⟨X, hX⟩ : ∃ X, X = x0 + x := ⟨_, rfl⟩
 obtain ⟨Y, hY⟩ : ∃ Y, Y = y0 + y := ⟨_, rfl⟩
 have HF : Aside0 (cropF xs W x0 y0 x y = gt xs (Y * W + X)) := ⟨by rw [hX, hY]; rfl⟩
 rw [← hX] at hm1 HI
 rw [← hY] at hm2 HI
 clear hg hC hi hl hx hy hX hY ha hr
 go_enter Try.func75, Try.ntmps75
 go_wp2_with (go_at_call 81; refine (of1_calls W H n c X Y g A xs w HG.out HC.out HI.out HL.out).mono ?_; rintro e w1 ⟨rfl, rfl⟩)
 go_ret
 exact ⟨by rw [HF.out]; rfl, rfl⟩
set_option maxHeartbeats 4000000 in
set_option maxRecDepth 100000 in
theorem Crop_calls (p : Pl) (x0 y0 x1 y1 cap : Nat) (A : Option Addr) (w : World) (hp : p.ok) (hx : x0 < x1) (hx2 : x1 ≤ p.w) (hy : y0 < y1) (hy2 : y1 ≤ p.h) (hC : (nat .u32).C w A p.s.length p.s) (hcap : p.s.length ≤ cap) :
    Calls Try.prog 68 #[.agg #[.int .i64 (p.w : Int), .int .i64 (p.h : Int), .slice A p.s.length cap], .agg #[.int .i64 (x0 : Int), .int .i64 (y0 : Int), .int .i64 (x1 : Int), .int .i64 (y1 : Int)]] w fun e w' => ∃ v, e = .returned (.tuple #[.agg #[.int .i64 ((x1 - x0 : Nat) : Int), .int .i64 ((y1 - y0 : Nat) : Int), v], .int .i64 0]) ∧ (nat .u32).R 50 w' w.heap.size (fun _ => True) v (cropN p.s p.w x0 y0 x1 y1) ∧ Below w.heap.size w w' := by
 have hu31 := Try.underlying25
 have hu73 := Try.underlying95
 have hmf : ∀ (fn : Fn) (first cap : Array Value) (w : World), (Instr.makeFunc fn first cap).run Try.prog w = .ok (.func fn first cap) w := fun _ _ _ _ => rfl
 obtain ⟨o1, o2, o3, o4, o5, o6, o7⟩ := hp
 have hE : checkE (p.w : Int) (p.h : Int) p.s.length = 0 := Pl.ok.checkE (p := p) ⟨o1, o2, o3, o4, o5, o6, o7⟩
 have t1 : decide ((x0 : Int) < 0) = false := decide_eq_false (by omega)
 have t2 : decide ((y0 : Int) < 0) = false := decide_eq_false (by omega)
 have t3 : decide (x1 ≤ x0) = false := decide_eq_false (by omega)
 have t4 : decide (y1 ≤ y0) = false := decide_eq_false (by omega)
 have t5 : decide (p.w < x1) = false := decide_eq_false (by omega)
 have t6 : decide (p.h < y1) = false := decide_eq_false (by omega)
 obtain ⟨dx, hdx⟩ : ∃ dx, dx = x1 - x0 := ⟨_, rfl⟩
 obtain ⟨dy, hdy⟩ : ∃ dy, dy = y1 - y0 := ⟨_, rfl⟩
 have hm1 : IntKind.i64.wrap ((x1 : Int) - (x0 : Int)) = (dx : Int) := by simp only [IntKind.wrap_i64]; omega
 have hm2 : IntKind.i64.wrap ((y1 : Int) - (y0 : Int)) = (dy : Int) := by simp only [IntKind.wrap_i64]; omega
 have HIN : Aside0 (∀ x y, x < dx → y < dy → (y0 + y) * p.w + (x0 + x) < p.s.length) := ⟨fun x y h1 h2 => idx_lt o6 (by omega) (by omega)⟩
 have HLS : Aside0 (p.s.length < 1048576) := ⟨by omega⟩
 have HE := Aside0.mk hE
 have HC := Aside0.mk hC
 have HD : Aside0 (dx * dy ≤ 1048576 ∧ dx ≤ 1048576 ∧ dy ≤ 1048576) := ⟨prod_small (by omega) (by omega), by omega, by omega⟩
 have HB1 : Aside0 (∀ x, x < dx → x0 + x < 1048576) := ⟨fun x h => by omega⟩
 have HB2 : Aside0 (∀ y, y < dy → y0 + y < 1048576) := ⟨fun x h => by omega⟩
 have HCR : Aside0 (cropN p.s p.w x0 y0 x1 y1 = gridTo (cropF p.s p.w x0 y0) dx (dx * dy)) := ⟨by rw [hdx, hdy]; rfl⟩
 rw [← hdx, ← hdy]
 have HN : Aside0 (p.s.length < 9223372036854775808) := ⟨by omega⟩
 clear o1 o2 o3 o4 o5 o6 o7 hE hx hx2 hy hy2 hC hcap hdx hdy
 obtain ⟨W, hW⟩ : ∃ W, W = p.w := ⟨_, rfl⟩
 obtain ⟨H, hH⟩ : ∃ H, H = p.h := ⟨_, rfl⟩
 obtain ⟨xs, hxs⟩ : ∃ xs, xs = p.s := ⟨_, rfl⟩
 rw [← hW, ← hxs] at HIN HCR ⊢
 rw [← hW, ← hH, ← hxs] at HE
 rw [← hxs] at HLS HC HN
 rw [← hH]
 rw [← hW] at t5
 rw [← hH] at t6
 rw [HCR.out]
 obtain ⟨zs, hzs⟩ : ∃ zs, zs = gridTo (cropF xs W x0 y0) dx (dx * dy) := ⟨_, rfl⟩
 rw [← hzs]
 have HZ := Aside0.mk hzs
 clear hW hH hxs HCR hzs
 go_enter Try.func68, Try.ntmps68
 go_wp2_with (first | ((with_reducible refine gate_dst (N := 2) rfl ?_); refine box_event ?hg (N := 2) ?hd (cs := #[.int .i64 (W : Int), .int .i64 (H : Int), .slice A xs.length cap]) (t := 25) ?hr ?_; (case hd => rfl); (case hg => rfl); (case hr => first | (go_simp; done) | (go_simp; rfl)); intro gp hgp w1 hm1 hb1; have P1 := Aside0.mk hm1; have B1 := Aside0.mk hb1; have GP := Aside0.mk (show w.heap.size ≤ gp by rw [hgp]; exact Nat.le_refl _); clear hm1 hb1 hgp) |
  ((with_reducible refine gate_dst (N := 3) rfl ?_); refine box_event ?hg (N := 3) ?hd (cs := #[.int .i64 (x0 : Int), .int .i64 (y0 : Int), .int .i64 (x1 : Int), .int .i64 (y1 : Int)]) (t := 95) ?hr ?_; (case hd => rfl); (case hg => rfl); (case hr => first | (go_simp; done) | (go_simp; rfl)); intro gr hgr w2 hm2 hb2; have P2 := Aside0.mk (blk_below P1.out hb2); have R2 := Aside0.mk hm2; have B2 := Aside0.mk (below_step B1.out hb2); have GR := Aside0.mk (show w.heap.size ≤ gr by rw [hgr]; exact below_size B1.out); clear hm2 hb2 hgr) |
  ((with_reducible refine gate_dst (N := 4) rfl ?_); refine box_event ?hg (N := 4) ?hd (cs := #[.int .i64 0, .int .i64 0, .slice none 0 0]) (t := 25) ?hr ?_; (case hd => rfl); (case hg => rfl); (case hr => first | (go_simp; done) | (go_simp; rfl)); intro go_ hgo w3 hm3 hb3; have P3 := Aside0.mk (blk_below P2.out hb3); have R3 := Aside0.mk (blk_below R2.out hb3); have O3 := Aside0.mk hm3; have B3 := Aside0.mk (below_step B2.out hb3); have GO := Aside0.mk (show w.heap.size ≤ go_ by rw [hgo]; exact below_size B2.out); have p0 := (blk_cell P3.out 0).trans rfl; have p1 := (blk_cell P3.out 1).trans rfl; have p2 := (blk_cell P3.out 2).trans rfl; clear hm3 hb3 hgo) |
  (go_at_call 51; refine (Check_calls (W : Int) (H : Int) A xs.length cap _ HN.out).mono ?_; rw [HE.out]; rintro e w4 ⟨rfl, hb⟩; have P4 := Aside0.mk (blk_below P3.out hb); have R4 := Aside0.mk (blk_below R3.out hb); have O4 := Aside0.mk (blk_below O3.out hb); have B4 := Aside0.mk (below_step B3.out hb); clear hb p0 p1 p2; have p0 := (blk_cell P4.out 0).trans rfl; have p1 := (blk_cell P4.out 1).trans rfl; have p2 := (blk_cell P4.out 2).trans rfl; have r0 := (blk_cell R4.out 0).trans rfl; have r1 := (blk_cell R4.out 1).trans rfl; have r2 := (blk_cell R4.out 2).trans rfl; have r3 := (blk_cell R4.out 3).trans rfl) |
  (go_at_call 74; refine (of_calls W H xs.length cap A _).mono ?_; rintro e w5 ⟨g, rfl, hg, hG, hb⟩; have R5 := Aside0.mk (blk_below R4.out hb); have O5 := Aside0.mk (blk_below O4.out hb); have B5 := Aside0.mk (below_step B4.out hb); have G5 := Aside0.mk hG; clear hb hG hg p0 p1 p2 r0 r1 r2 r3) |
  ((with_reducible refine gate_dst (N := 7) rfl ?_); refine box_event ?hg (N := 7) ?hd (cs := #[.nilFunc]) (t := 96) ?hr ?_; (case hd => rfl); (case hg => rfl); (case hr => first | (go_simp; done) | (go_simp; rfl)); intro ga hga w6 hm6 hb6; have R6 := Aside0.mk (blk_below R5.out hb6); have O6 := Aside0.mk (blk_below O5.out hb6); have B6 := Aside0.mk (below_step B5.out hb6); have G6 := Aside0.mk (blk_below G5.out hb6); have A6 := Aside0.mk hm6; have GA := Aside0.mk (show w.heap.size ≤ ga by rw [hga]; exact below_size B5.out); have a0 := (blk_cell A6.out 0).trans rfl; have f0 := blk_frozen A6.out 0; have NR := Aside0.mk (blk_ne R6.out A6.out (by decide)); have NO := Aside0.mk (blk_ne O6.out A6.out (by decide)); have NG := Aside0.mk (blk_ne G6.out A6.out (by decide)); have R7 : Aside0 ((w6.setCell ⟨ga, 0, none⟩ (.func (.func 81) #[] #[.pointer (some ⟨g, 0, none⟩)])).heap[gr]? = some (.cells #[.int .i64 (x0 : Int), .int .i64 (y0 : Int), .int .i64 (x1 : Int), .int .i64 (y1 : Int)] 95 (0, 0))) := ⟨(Below.heap_setCell _ _ _ gr NR.out).trans R6.out⟩; have O7 : Aside0 ((w6.setCell ⟨ga, 0, none⟩ (.func (.func 81) #[] #[.pointer (some ⟨g, 0, none⟩)])).heap[go_]? = some (.cells #[.int .i64 0, .int .i64 0, .slice none 0 0] 25 (0, 0))) := ⟨(Below.heap_setCell _ _ _ go_ NO.out).trans O6.out⟩; have G7 : Aside0 ((w6.setCell ⟨ga, 0, none⟩ (.func (.func 81) #[] #[.pointer (some ⟨g, 0, none⟩)])).heap[g]? = some (.cells #[.int .i64 (W : Int), .int .i64 (H : Int), .slice A xs.length cap] 25 (0, 0))) := ⟨(Below.heap_setCell _ _ _ g NG.out).trans G6.out⟩; have A7 : Aside0 ((w6.setCell ⟨ga, 0, none⟩ (.func (.func 81) #[] #[.pointer (some ⟨g, 0, none⟩)])).heap[ga]? = some (.cells #[.func (.func 81) #[] #[.pointer (some ⟨g, 0, none⟩)]] 96 (0, 0))) := ⟨(blk_set A6.out 0 _).trans rfl⟩; have B7 : Aside0 (Below w.heap.size w (w6.setCell ⟨ga, 0, none⟩ (.func (.func 81) #[] #[.pointer (some ⟨g, 0, none⟩)]))) := ⟨B6.out.setCell (p := ⟨ga, 0, none⟩) GA.out _⟩; have r0 := (blk_cell R7.out 0).trans rfl; have r1 := (blk_cell R7.out 1).trans rfl; have r2 := (blk_cell R7.out 2).trans rfl; have r3 := (blk_cell R7.out 3).trans rfl; clear hm6 hb6 hga) |
  (go_at_call 61; refine (made_calls 75 Try.f75 #[.pointer (some ⟨ga, 0, none⟩), .pointer (some ⟨gr, 0, none⟩)] (cropF xs W x0 y0) dx dy _ Try.func75 rfl rfl HD.out.1 HD.out.2.1 HD.out.2.2 ?_).mono ?_; (case _ => exact fun w8 hb8 x y hx hy => (crop1_calls W H xs.length cap x y x0 y0 x1 y1 g ga gr A xs w8 (blk_below G7.out hb8) (Kd.C_below (Kd.C_below HC.out B7.out) (hb8.mono (Nat.le_refl _))) (HIN.out x y hx hy) HLS.out (HB1.out x hx) (HB2.out y hy) (blk_below A7.out hb8) (blk_below R7.out hb8)).mono fun e w9 h => ⟨h.1, by rw [h.2]; exact Below.refl _ _⟩); rw [← HZ.out]; rintro e w8 ⟨v, rfl, hR8, hb8⟩; have V8 := Aside0.mk (Kd.R_lower hR8 B7.out.size); have O8 := Aside0.mk (blk_below O7.out hb8); have B8 := Aside0.mk (below_step B7.out hb8); obtain ⟨Av, cv, rfl⟩ := Kd.R_slice hR8; have o0 := (blk_cell O8.out 0).trans rfl; have o1 := (blk_cell O8.out 1).trans rfl; have o2 := (blk_cell O8.out 2).trans rfl; have fo0 := blk_frozen O8.out 0; have fo1 := blk_frozen O8.out 1; have fo2 := blk_frozen O8.out 2; clear hR8 hb8))
 obtain ⟨w9, hw9⟩ : ∃ w9, w9 = ((w8.setCell ⟨go_, 0, none⟩ (.int .i64 (dx : Int))).setCell ⟨go_, 1, none⟩ (.int .i64 (dy : Int))).setCell ⟨go_, 2, none⟩ (.slice Av zs.length cv) := ⟨_, rfl⟩
 rw [← hw9]
 obtain ⟨hG9, hst9, hbl9⟩ := put3 O8.out hw9
 refine bodyPost_ret (results_ct rfl _ _ go_ 25 #[.int .i64 (dx : Int), .int .i64 (dy : Int), .slice Av zs.length cv] (0, 0) _ rfl hG9 Try.underlying25 rfl (by kernel_rfl)) rfl ?_
 exact ⟨.slice Av zs.length cv, rfl, Kd.R_mono (Kd.R_move (Kd.R_types V8.out O8.out (by decide)) (fun k hk => hst9 k hk.2)) (fun _ _ => trivial), B8.out.trans (hbl9 _ GO.out)⟩
theorem new1_calls (s g : Nat) (x y : Int) (w : World) (hg : w.heap[g]? = some (.cells #[.int .u32 (s : Int)] 50 (0, 0))) :
    Calls Try.prog 60 #[.int .i64 x, .int .i64 y, .pointer (some ⟨g, 0, none⟩)] w fun e w' => e = .returned (.int .u32 (s : Int)) ∧ w = w' := by
 have c0 := (blk_cell hg 0).trans rfl
 go_enter Try.func60, Try.ntmps60
 go_wp2
 go_ret
 exact ⟨rfl, rfl⟩
theorem gridTo_const (s W : Nat) : ∀ n, gridTo (fun _ _ => s) W n = List.replicate n s := by
 intro n
 unfold gridTo
 rw [List.map_const', List.length_range]
set_option maxHeartbeats 4000000 in
set_option maxRecDepth 100000 in
theorem New_calls (x y : Int) (s : Nat) (w : World) :
    Calls Try.prog 24 #[.int .i64 x, .int .i64 y, .int .u32 (s : Int)] w fun e w' => ∃ v, e = .returned (.tuple #[.agg #[.int .i64 (if sizeB x y = true then x else 0), .int .i64 (if sizeB x y = true then y else 0), v], .int .i64 (if sizeB x y = true then 0 else 50)]) ∧ (nat .u32).R 50 w' w.heap.size (fun _ => True) v (if sizeB x y = true then List.replicate (x * y).toNat s else []) ∧ Below w.heap.size w w' := by
 have hu31 := Try.underlying25
 have hmf : ∀ (fn : Fn) (first cap : Array Value) (w : World), (Instr.makeFunc fn first cap).run Try.prog w = .ok (.func fn first cap) w := fun _ _ _ _ => rfl
 obtain ⟨b, hb⟩ : ∃ b, b = sizeB x y := ⟨_, rfl⟩
 have HS := Aside0.mk hb
 rw [← hb]
 cases b with
 | false =>
  clear hb
  simp only [Bool.false_eq_true, if_false]
  go_enter Try.func24, Try.ntmps24
  go_wp2_with (first | ((with_reducible refine gate_dst (N := 5) rfl ?_); refine box_event ?hg (N := 5) ?hd (cs := #[.int .u32 (s : Int)]) (t := 50) ?hr ?_; (case hd => rfl); (case hg => rfl); (case hr => first | (go_simp; done) | (go_simp; rfl)); intro gs hgs w1 hm1 hb1; have B1 := Aside0.mk hb1; clear hm1 hb1 hgs) |
   ((with_reducible refine gate_dst (N := 6) rfl ?_); refine box_event ?hg (N := 6) ?hd (cs := #[.int .i64 0, .int .i64 0, .slice none 0 0]) (t := 25) ?hr ?_; (case hd => rfl); (case hg => rfl); (case hr => first | (go_simp; done) | (go_simp; rfl)); intro go_ hgo w3 hm3 hb3; have O3 := Aside0.mk hm3; have B3 := Aside0.mk (below_step B1.out hb3); have GO := Aside0.mk (show w.heap.size ≤ go_ by rw [hgo]; exact below_size B1.out); have o0 := (blk_cell O3.out 0).trans rfl; have o1 := (blk_cell O3.out 1).trans rfl; have o2 := (blk_cell O3.out 2).trans rfl; have fo0 := blk_frozen O3.out 0; have fo1 := blk_frozen O3.out 1; have fo2 := blk_frozen O3.out 2; clear hm3 hb3 hgo) |
   (go_at_call 59; refine (size_calls x y _).mono ?_; rw [← HS.out]; rintro e w4 ⟨rfl, rfl⟩))
  obtain ⟨w9, hw9⟩ : ∃ w9, w9 = ((w3.setCell ⟨go_, 0, none⟩ (.int .i64 0)).setCell ⟨go_, 1, none⟩ (.int .i64 0)).setCell ⟨go_, 2, none⟩ (.slice none 0 0) := ⟨_, rfl⟩
  rw [← hw9]
  obtain ⟨hG9, hst9, hbl9⟩ := put3 O3.out hw9
  refine bodyPost_ret (results_ct rfl _ _ go_ 25 #[.int .i64 0, .int .i64 0, .slice none 0 0] (0, 0) _ rfl hG9 Try.underlying25 rfl (by kernel_rfl)) rfl ?_
  exact ⟨_, rfl, Kd.R_nil _ _ _ _ _, B3.out.trans (hbl9 _ GO.out)⟩
 | true =>
  simp only [if_true]
  obtain ⟨b1, b2, b3, b4, b5⟩ := sizeB_true hb.symm
  obtain ⟨W, rfl⟩ : ∃ W : Nat, x = W := ⟨x.toNat, by omega⟩
  obtain ⟨H, rfl⟩ : ∃ H : Nat, y = H := ⟨y.toNat, by omega⟩
  have HD : Aside0 (W * H ≤ 1048576 ∧ W ≤ 1048576 ∧ H ≤ 1048576) := ⟨prod_small (by omega) (by omega), by omega, by omega⟩
  obtain ⟨zs, hzs⟩ : ∃ zs, zs = List.replicate ((W : Int) * (H : Int)).toNat s := ⟨_, rfl⟩
  have HZ : Aside0 (gridTo (fun _ _ => s) W (W * H) = zs) := ⟨by rw [gridTo_const, hzs, ← Int.natCast_mul, Int.toNat_natCast]⟩
  rw [← hzs]
  clear hb hzs b1 b2 b3 b4 b5
  go_enter Try.func24, Try.ntmps24
  go_wp2_with (first | ((with_reducible refine gate_dst (N := 5) rfl ?_); refine box_event ?hg (N := 5) ?hd (cs := #[.int .u32 (s : Int)]) (t := 50) ?hr ?_; (case hd => rfl); (case hg => rfl); (case hr => first | (go_simp; done) | (go_simp; rfl)); intro gs hgs w1 hm1 hb1; have S1 := Aside0.mk hm1; have B1 := Aside0.mk hb1; clear hm1 hb1 hgs) |
   ((with_reducible refine gate_dst (N := 6) rfl ?_); refine box_event ?hg (N := 6) ?hd (cs := #[.int .i64 0, .int .i64 0, .slice none 0 0]) (t := 25) ?hr ?_; (case hd => rfl); (case hg => rfl); (case hr => first | (go_simp; done) | (go_simp; rfl)); intro go_ hgo w3 hm3 hb3; have S3 := Aside0.mk (blk_below S1.out hb3); have O3 := Aside0.mk hm3; have B3 := Aside0.mk (below_step B1.out hb3); have GO := Aside0.mk (show w.heap.size ≤ go_ by rw [hgo]; exact below_size B1.out); clear hm3 hb3 hgo) |
   (go_at_call 59; refine (size_calls _ _ _).mono ?_; rw [← HS.out]; rintro e w4 ⟨rfl, rfl⟩) |
   (go_at_call 61; refine (made_calls 60 Try.f60 #[.pointer (some ⟨gs, 0, none⟩)] (fun _ _ => s) W H _ Try.func60 rfl rfl HD.out.1 HD.out.2.1 HD.out.2.2 ?_).mono ?_; (case _ => exact fun w8 hb8 x y hx hy => (new1_calls s gs x y w8 (blk_below S3.out hb8)).mono fun e w9 h => ⟨h.1, by rw [h.2]; exact Below.refl _ _⟩); rw [HZ.out]; rintro e w8 ⟨v, rfl, hR8, hb8⟩; have V8 := Aside0.mk (Kd.R_lower hR8 B3.out.size); have O8 := Aside0.mk (blk_below O3.out hb8); have B8 := Aside0.mk (below_step B3.out hb8); obtain ⟨Av, cv, rfl⟩ := Kd.R_slice hR8; have o0 := (blk_cell O8.out 0).trans rfl; have o1 := (blk_cell O8.out 1).trans rfl; have o2 := (blk_cell O8.out 2).trans rfl; have fo0 := blk_frozen O8.out 0; have fo1 := blk_frozen O8.out 1; have fo2 := blk_frozen O8.out 2; clear hR8 hb8))
  obtain ⟨w9, hw9⟩ : ∃ w9, w9 = ((w8.setCell ⟨go_, 0, none⟩ (.int .i64 (W : Int))).setCell ⟨go_, 1, none⟩ (.int .i64 (H : Int))).setCell ⟨go_, 2, none⟩ (.slice Av zs.length cv) := ⟨_, rfl⟩
  rw [← hw9]
  obtain ⟨hG9, hst9, hbl9⟩ := put3 O8.out hw9
  refine bodyPost_ret (results_ct rfl _ _ go_ 25 #[.int .i64 (W : Int), .int .i64 (H : Int), .slice Av zs.length cv] (0, 0) _ rfl hG9 Try.underlying25 rfl (by kernel_rfl)) rfl ?_
  exact ⟨.slice Av zs.length cv, rfl, Kd.R_mono (Kd.R_move (Kd.R_types V8.out O8.out (by decide)) (fun k hk => hst9 k hk.2)) (fun _ _ => trivial), B8.out.trans (hbl9 _ GO.out)⟩
end Go.Proofs.Ytodlgdpkadkjjaa.A
end
section
set_option linter.unusedVariables false
set_option linter.unusedSimpArgs false
namespace Go.Proofs.Ytodlgdpkadkjjaa.A
open Go.RowKit Go.Shelf Go.Proofs.YtodlgdpkadkjjaaW.PrintWords Go.Proofs.YtodlgdpkadkjjaaW.PrintLast Go.Proofs.YtodlgdpkadkjjaaW.PrintMore Go.Proofs.Ytodlgdpkadkjjaa.PPyramidLevels

def hf (n : Nat) : Nat := (n + 1) / 2
theorem half_calls (n : Nat) (w : World) (hn : n < 1000000) : Calls Try.prog 53 #[.int .i64 (n : Int)] w fun e w' => e = .returned (.int .i64 ((hf n : Nat) : Int)) ∧ w = w' := by
 have h1 : wrap64 ((n : Int) + 1) = (n : Int) + 1 := w64 (by omega) (by omega)
 have h2 : ((n : Int) + 1).tdiv 2 = ((hf n : Nat) : Int) := rfl
 have h3 : hf n < 1000000 := by unfold hf; omega
 go_enter Try.func53, Try.ntmps53
 go_wp2
 go_ret
 exact ⟨rfl, rfl⟩
/-- a plane's halves -/
def redS (W H : Nat) (xs : List Nat) : List Nat := resZ reduceS W H (hf W) (hf H) xs
/-- a plane made greater -/
def expS (W H w h : Nat) (xs : List Nat) : List Nat := resZ expandS W H w h xs
theorem hf_pos {n : Nat} (h : 0 < n) : 1 ≤ hf n := by unfold hf; omega
theorem hf_le {n m : Nat} (h : n ≤ m) (h0 : 0 < m) : hf n ≤ m := by unfold hf; omega
theorem redS_length (W H : Nat) (xs : List Nat) : (redS W H xs).length = hf W * hf H := by unfold redS; rw [resZ_length, Nat.mul_comm]
theorem expS_length (W H w h : Nat) (xs : List Nat) : (expS W H w h xs).length = w * h := by unfold expS; rw [resZ_length, Nat.mul_comm]
theorem lt_of_gt {xs : List Nat} (h : ∀ i, gt xs i < 4294967296) : ∀ x ∈ xs, x < 4294967296 := mem_lt_of h
theorem redS_lt {W H : Nat} {xs : List Nat} (hp : (Pl.mk W H xs).ok) : ∀ i, gt (redS W H xs) i < 4294967296 := by
 obtain ⟨p1, p2, p3, p4, p5, p6, p7⟩ := hp
 have p1 : 0 < W := p1
 have p2 : 0 < H := p2
 have p3 : W ≤ 1024 := p3
 have p4 : H ≤ 1024 := p4
 exact gt_lt_of (by decide) (resZ_lt reduceS reduce_good W H (hf W) (hf H) xs (lt_of_gt p7) p1 p2 (by have := hf_le p3 (by decide); omega) (by have := hf_le p4 (by decide); omega))
theorem expS_lt {W H w h : Nat} {xs : List Nat} (hp : (Pl.mk W H xs).ok) (hw : w ≤ 1024) (hh : h ≤ 1024) : ∀ i, gt (expS W H w h xs) i < 4294967296 := by
 obtain ⟨p1, p2, p3, p4, p5, p6, p7⟩ := hp
 exact gt_lt_of (by decide) (resZ_lt expandS expand_good W H w h xs (lt_of_gt p7) p1 p2 (by omega) (by omega))
theorem red_ok {W H : Nat} {xs : List Nat} (hp : (Pl.mk W H xs).ok) : (Pl.mk (hf W) (hf H) (redS W H xs)).ok := by
 have hl := redS_lt hp
 obtain ⟨p1, p2, p3, p4, p5, p6, p7⟩ := hp
 have p1 : 0 < W := p1
 have p2 : 0 < H := p2
 have p3 : W ≤ 1024 := p3
 have p4 : H ≤ 1024 := p4
 have p5 : W * H ≤ 65536 := p5
 have h1 : hf W * hf H ≤ W * H := Nat.mul_le_mul (by unfold hf; omega) (by unfold hf; omega)
 exact ⟨hf_pos p1, hf_pos p2, hf_le p3 (by decide), hf_le p4 (by decide), show hf W * hf H ≤ 65536 by omega, redS_length W H xs, hl⟩
theorem resized_n (f : FuncId) (fn : Func) (S : Shape) (hS : ShapeC f S) (hG : ShapeG S) (hf : Try.prog.funcs[f]? = some fn) (hname : (fn.name == "runtime.NumGoroutine") = false) (hbody : fn.body.isSome = true)
    (W H w h n cap : Nat) (A : Option Addr) (p : List Nat) (w0 : World) (hp : (Pl.mk W H p).ok) (hw : 1 ≤ w ∧ w ≤ 1024) (hh : 1 ≤ h ∧ h ≤ 1024) (hn : p.length = n) (hC : (nat .u32).C w0 A n p) (hcap : n ≤ cap) :
    Calls Try.prog 52 #[.agg #[.int .i64 (W : Int), .int .i64 (H : Int), .slice A n cap], .int .i64 (w : Int), .int .i64 (h : Int), .func (.func f) #[] #[]] w0 fun e w' => ∃ v, e = .returned (.agg #[.int .i64 (w : Int), .int .i64 (h : Int), v]) ∧ (nat .u32).R 50 w' w0.heap.size (fun _ => True) v (resZ S W H w h p) ∧ Below w0.heap.size w0 w' := by
 obtain ⟨p1, p2, p3, p4, p5, p6, p7⟩ := hp
 have p6 : p.length = W * H := p6
 obtain rfl : n = W * H := by omega
 exact resized_calls f fn S hS hG hf hname hbody W H w h A cap p w0 ⟨p1, p3⟩ ⟨p2, p4⟩ hw hh p6 (lt_of_gt p7) hC hcap
set_option maxHeartbeats 2000000 in
set_option maxRecDepth 100000 in
theorem Reduce_bad (x y : Int) (A : Option Addr) (n cap : Nat) (w : World) (hn : n < 9223372036854775808) (hE : checkE x y n ≠ 0) :
    Calls Try.prog 16 #[.agg #[.int .i64 x, .int .i64 y, .slice A n cap]] w fun e w' => e = .returned (.tuple #[.agg #[.int .i64 0, .int .i64 0, .slice none 0 0], .int .i64 ((checkE x y n : Nat) : Int)]) ∧ Below w.heap.size w w' := by
 have hu25 := Try.underlying25
 obtain ⟨c, hc⟩ : ∃ c, checkE x y n = c := ⟨_, rfl⟩
 have HE := Aside0.mk hc
 have HN := Aside0.mk hn
 rw [hc] at hE ⊢
 have t1 : ((c : Int) != 0) = true := by rw [bne_iff_ne]; omega
 clear hc hn hE
 go_enter Try.func16, Try.ntmps16
 go_wp2_with (first | ((with_reducible refine gate_dst (N := 1) rfl ?_); refine box_event ?hg (N := 1) ?hd (cs := #[.int .i64 x, .int .i64 y, .slice A n cap]) (t := 25) ?hr ?_; (case hd => rfl); (case hg => rfl); (case hr => first | (go_simp; done) | (go_simp; rfl)); intro gP hg_ w1 hm_ hb_; have P1 := Aside0.mk (hm_); have B1 := Aside0.mk (hb_); have GP := Aside0.mk (show w.heap.size ≤ gP by rw [hg_]; exact Nat.le_refl _); clear hm_ hb_ hg_) | ((with_reducible refine gate_dst (N := 2) rfl ?_); refine box_event ?hg (N := 2) ?hd (cs := #[.int .i64 0, .int .i64 0, .slice none 0 0]) (t := 25) ?hr ?_; (case hd => rfl); (case hg => rfl); (case hr => first | (go_simp; done) | (go_simp; rfl)); intro gR hg_ w2 hm_ hb_; have R2 := Aside0.mk (hm_); have P2 := Aside0.mk (blk_below P1.out hb_); have B2 := Aside0.mk (below_step B1.out hb_); have GR := Aside0.mk (show w.heap.size ≤ gR by rw [hg_]; exact below_size B1.out); have NPR := Aside0.mk (show gP ≠ gR by rw [hg_]; have := blk_lt P1.out; omega); have p0 := (blk_cell P2.out 0).trans rfl; have p1 := (blk_cell P2.out 1).trans rfl; have p2 := (blk_cell P2.out 2).trans rfl; clear hm_ hb_ hg_ P1 B1) | (go_at_call 51; refine (Check_calls x y A n cap _ HN.out).mono ?_; rw [HE.out]; rintro e w3 ⟨rfl, hb⟩; have P3 := Aside0.mk (blk_below P2.out hb); have R3 := Aside0.mk (blk_below R2.out hb); have B3 := Aside0.mk (below_step B2.out hb); clear hb p0 p1 p2; have p0 := (blk_cell P3.out 0).trans rfl; have p1 := (blk_cell P3.out 1).trans rfl; have p2 := (blk_cell P3.out 2).trans rfl; have o0 := (blk_cell R3.out 0).trans rfl; have o1 := (blk_cell R3.out 1).trans rfl; have o2 := (blk_cell R3.out 2).trans rfl; have fo0 := blk_frozen R3.out 0; have fo1 := blk_frozen R3.out 1; have fo2 := blk_frozen R3.out 2))
 obtain ⟨wz, hwz⟩ : ∃ wz, wz = ((w3.setCell ⟨gR, 0, none⟩ (.int .i64 0)).setCell ⟨gR, 1, none⟩ (.int .i64 0)).setCell ⟨gR, 2, none⟩ (.slice none 0 0) := ⟨_, rfl⟩
 rw [← hwz]
 obtain ⟨hGz, hstz, hblz⟩ := put3 R3.out hwz
 refine bodyPost_ret (results_ct rfl _ _ gR 25 #[.int .i64 0, .int .i64 0, .slice none 0 0] (0, 0) _ rfl hGz Try.underlying25 rfl (by kernel_rfl)) rfl ?_
 exact ⟨rfl, B3.out.trans (hblz _ GR.out)⟩
set_option maxHeartbeats 4000000 in
set_option maxRecDepth 100000 in
theorem Reduce_ok (W H : Nat) (xs : List Nat) (A : Option Addr) (n cap : Nat) (w : World) (hp : (Pl.mk W H xs).ok) (hn : xs.length = n) (hC : (nat .u32).C w A n xs) (hcap : n ≤ cap) :
    Calls Try.prog 16 #[.agg #[.int .i64 (W : Int), .int .i64 (H : Int), .slice A n cap]] w fun e w' => ∃ v, e = .returned (.tuple #[.agg #[.int .i64 ((hf W : Nat) : Int), .int .i64 ((hf H : Nat) : Int), v], .int .i64 0]) ∧ (nat .u32).R 50 w' w.heap.size (fun _ => True) v (redS W H xs) ∧ Below w.heap.size w w' := by
 have hu25 := Try.underlying25
 have HE : Aside0 (checkE (W : Int) (H : Int) n = 0) := ⟨by rw [← hn]; exact hp.checkE⟩
 have HP := Aside0.mk hp
 obtain ⟨p1, p2, p3, p4, p5, p6, p7⟩ := hp
 have p1 : 0 < W := p1
 have p2 : 0 < H := p2
 have p3 : W ≤ 1024 := p3
 have p4 : H ≤ 1024 := p4
 have p5 : W * H ≤ 65536 := p5
 have p6 : xs.length = W * H := p6
 have HWL : Aside0 (W < 1000000) := ⟨by omega⟩
 have HHL : Aside0 (H < 1000000) := ⟨by omega⟩
 have HNL : Aside0 (n < 9223372036854775808) := ⟨by omega⟩
 have HXN := Aside0.mk hn
 have HC := Aside0.mk hC
 have HCAP := Aside0.mk hcap
 have HH1 : Aside0 (1 ≤ hf W ∧ hf W ≤ 1024) := ⟨⟨hf_pos p1, hf_le p3 (by decide)⟩⟩
 have HH2 : Aside0 (1 ≤ hf H ∧ hf H ≤ 1024) := ⟨⟨hf_pos p2, hf_le p4 (by decide)⟩⟩
 clear p1 p2 p3 p4 p5 p6 p7 hn hC hcap
 go_enter Try.func16, Try.ntmps16
 go_upto_region 4 with (first | ((with_reducible refine gate_dst (N := 1) rfl ?_); refine box_event ?hg (N := 1) ?hd (cs := #[.int .i64 (W : Int), .int .i64 (H : Int), .slice A n cap]) (t := 25) ?hr ?_; (case hd => rfl); (case hg => rfl); (case hr => first | (go_simp; done) | (go_simp; rfl)); intro gP hg_ w1 hm_ hb_; have P1 := Aside0.mk (hm_); have B1 := Aside0.mk (hb_); have GP := Aside0.mk (show w.heap.size ≤ gP by rw [hg_]; exact Nat.le_refl _); clear hm_ hb_ hg_) | ((with_reducible refine gate_dst (N := 2) rfl ?_); refine box_event ?hg (N := 2) ?hd (cs := #[.int .i64 0, .int .i64 0, .slice none 0 0]) (t := 25) ?hr ?_; (case hd => rfl); (case hg => rfl); (case hr => first | (go_simp; done) | (go_simp; rfl)); intro gR hg_ w2 hm_ hb_; have R2 := Aside0.mk (hm_); have P2 := Aside0.mk (blk_below P1.out hb_); have B2 := Aside0.mk (below_step B1.out hb_); have GR := Aside0.mk (show w.heap.size ≤ gR by rw [hg_]; exact below_size B1.out); have NPR := Aside0.mk (show gP ≠ gR by rw [hg_]; have := blk_lt P1.out; omega); have p0 := (blk_cell P2.out 0).trans rfl; have p1 := (blk_cell P2.out 1).trans rfl; have p2 := (blk_cell P2.out 2).trans rfl; clear hm_ hb_ hg_ P1 B1) | (go_at_call 51; refine (Check_calls (W : Int) (H : Int) A n cap _ HNL.out).mono ?_; rw [HE.out]; rintro e w3 ⟨rfl, hb⟩; have P3 := Aside0.mk (blk_below P2.out hb); have R3 := Aside0.mk (blk_below R2.out hb); have B3 := Aside0.mk (below_step B2.out hb); clear hb p0 p1 p2; have p0 := (blk_cell P3.out 0).trans rfl; have p1 := (blk_cell P3.out 1).trans rfl; have p2 := (blk_cell P3.out 2).trans rfl; have o0 := (blk_cell R3.out 0).trans rfl; have o1 := (blk_cell R3.out 1).trans rfl; have o2 := (blk_cell R3.out 2).trans rfl; have fo0 := blk_frozen R3.out 0; have fo1 := blk_frozen R3.out 1; have fo2 := blk_frozen R3.out 2))
 have P4 := Aside0.mk (blk_drew P3.out)
 have R4 := Aside0.mk (blk_drew R3.out)
 have B4 : Aside0 (Below w.heap.size w w3.drew) := ⟨below_drew1 B3.out⟩
 clear P2 R2 B2 P3 R3 B3 p0 p1 p2 o0 o1 o2 fo0 fo1 fo2
 refine start_ (n := 10) (S := fun w' => w'.cell? ⟨gP, 0, none⟩ = some (.int .i64 (W : Int)) ∧ w'.cell? ⟨gP, 1, none⟩ = some (.int .i64 (H : Int)) ∧ w'.cell? ⟨gP, 2, none⟩ = some (.slice A n cap)) (ds := [7, 8]) #[ff_,ff_,ff_,ff_,ff_,ff_,ff_,ff_,ff_,ff_] (by kernel_rfl) rfl rfl ⟨(blk_cell P4.out 0).trans rfl, (blk_cell P4.out 1).trans rfl, (blk_cell P4.out 2).trans rfl⟩ (fun hHeld => ?_)
 generalize w3.drew = wd at *
 refine pure_ (i := 1) (N := some 12) (v := ?_) (a' := ?_) #[ff_,tt_,ff_,ff_,ff_,ff_,ff_,ff_,ff_,ff_] rfl rfl (by kernel_rfl) (fun _ _ _ h => h) (Or.inl ⟨by rfl, ?_⟩) ?_ ?_
 rotate_left
 ·intro w'
  go_simp
  with_reducible rfl
 rotate_left
 ·simp only [Act.put, List.setIfInBounds_toArray, List.set_cons_zero, List.set_cons_succ, i64_w, i32_w]
  rfl
 refine pure_ (i := 4) (N := some 15) (v := ?_) (a' := ?_) #[ff_,tt_,ff_,ff_,tt_,ff_,ff_,ff_,ff_,ff_] rfl rfl (by kernel_rfl) (fun _ _ _ h => h) (Or.inl ⟨by rfl, ?_⟩) ?_ ?_
 rotate_left
 ·intro w'
  go_simp
  with_reducible rfl
 rotate_left
 ·simp only [Act.put, List.setIfInBounds_toArray, List.set_cons_zero, List.set_cons_succ, i64_w, i32_w]
  rfl
 refine take_ (i := 0) (N := some 11) (v := ?_) (a' := ?_) #[tt_,tt_,ff_,ff_,tt_,ff_,ff_,ff_,ff_,ff_] rfl rfl (by kernel_rfl) (fun _ _ _ h => h) (Or.inl ⟨by rfl, ?_⟩) hHeld ?_ ?_
 rotate_left
 ·rintro w' ⟨s0, s1, s2⟩
  go_simp
  with_reducible rfl
 rotate_left
 ·simp only [Act.put, List.setIfInBounds_toArray, List.set_cons_zero, List.set_cons_succ, i64_w, i32_w]
  rfl
 refine take_ (i := 2) (N := some 13) (v := ?_) (a' := ?_) #[tt_,tt_,tt_,ff_,tt_,ff_,ff_,ff_,ff_,ff_] rfl rfl (by kernel_rfl) (fun _ _ _ h => h) (Or.inl ⟨by rfl, ?_⟩) hHeld ?_ ?_
 rotate_left
 ·rintro w' ⟨s0, s1, s2⟩
  go_simp
  with_reducible rfl
 rotate_left
 ·simp only [Act.put, List.setIfInBounds_toArray, List.set_cons_zero, List.set_cons_succ, i64_w, i32_w]
  rfl
 refine take_ (i := 5) (N := some 16) (v := ?_) (a' := ?_) #[tt_,tt_,tt_,ff_,tt_,tt_,ff_,ff_,ff_,ff_] rfl rfl (by kernel_rfl) (fun _ _ _ h => h) (Or.inl ⟨by rfl, ?_⟩) hHeld ?_ ?_
 rotate_left
 ·rintro w' ⟨s0, s1, s2⟩
  go_simp
  with_reducible rfl
 rotate_left
 ·simp only [Act.put, List.setIfInBounds_toArray, List.set_cons_zero, List.set_cons_succ, i64_w, i32_w]
  rfl
 refine one_ (i := 3) (N := some 14) #[tt_,tt_,tt_,tt_,tt_,tt_,ff_,ff_,ff_,ff_] rfl rfl (by kernel_rfl) (by decide) (fun K hK => ?_)
 refine goes_ Try.func53 (by kernel_rfl) rfl #[.int .i64 (W : Int)] (by rfl) rfl rfl (by (try simp only [List.map_toArray, List.map_cons, List.map_nil]); rfl) ?_
 with_reducible refine (half_calls W _ HWL.out).mono ?_
 rintro e _ ⟨rfl, rfl⟩
 refine ⟨_, rfl, ?_⟩
 refine hK.out _ _ ⟨(blk_cell P4.out 0).trans rfl, (blk_cell P4.out 1).trans rfl, (blk_cell P4.out 2).trans rfl⟩ (fun hHeld => ?_)
 clear hK K
 refine norm_ (a' := ?_) ?_ ?_
 rotate_left
 ·show Act.put _ (some 14) _ = _
  simp only [Act.put, List.setIfInBounds_toArray, List.set_cons_zero, List.set_cons_succ, i64_w, i32_w]
  rfl
 refine one_ (i := 6) (N := some 17) #[tt_,tt_,tt_,tt_,tt_,tt_,tt_,ff_,ff_,ff_] rfl rfl (by kernel_rfl) (by decide) (fun K hK => ?_)
 refine goes_ Try.func53 (by kernel_rfl) rfl #[.int .i64 (H : Int)] (by rfl) rfl rfl (by (try simp only [List.map_toArray, List.map_cons, List.map_nil]); rfl) ?_
 with_reducible refine (half_calls H _ HHL.out).mono ?_
 rintro e _ ⟨rfl, rfl⟩
 refine ⟨_, rfl, ?_⟩
 refine hK.out _ _ ⟨(blk_cell P4.out 0).trans rfl, (blk_cell P4.out 1).trans rfl, (blk_cell P4.out 2).trans rfl⟩ (fun hHeld => ?_)
 clear hK K
 refine norm_ (a' := ?_) ?_ ?_
 rotate_left
 ·show Act.put _ (some 17) _ = _
  simp only [Act.put, List.setIfInBounds_toArray, List.set_cons_zero, List.set_cons_succ, i64_w, i32_w]
  rfl
 refine last_ (i := 7) (N := some 18) #[tt_,tt_,tt_,tt_,tt_,tt_,tt_,tt_,ff_,ff_] rfl rfl (by kernel_rfl) (by decide) (fun K hK => ?_)
 refine goes_ Try.func52 (by kernel_rfl) rfl #[.agg #[.int .i64 (W : Int), .int .i64 (H : Int), .slice A n cap], .int .i64 ((hf W : Nat) : Int), .int .i64 ((hf H : Nat) : Int), .func (.func 54) #[] #[]] (by rfl) rfl rfl (by (try simp only [List.map_toArray, List.map_cons, List.map_nil]); rfl) ?_
 refine (resized_n 54 Try.f54 reduceS reduce_shape reduce_good Try.func54 rfl rfl W H (hf W) (hf H) n cap A xs _ HP.out HH1.out HH2.out HXN.out (Kd.C_below HC.out B4.out) HCAP.out).mono ?_
 rintro e w5 ⟨v5, rfl, hR, hb⟩
 refine ⟨_, rfl, ?_⟩
 have V5 := Aside0.mk (Kd.R_lower hR B4.out.size)
 have R5 := Aside0.mk (blk_below R4.out hb)
 have B5 := Aside0.mk (below_step B4.out hb)
 obtain ⟨A5, c5, hv5⟩ := Kd.R_slice hR
 obtain ⟨n5, hn5⟩ : ∃ n5, (resZ reduceS W H (hf W) (hf H) xs).length = n5 := ⟨_, rfl⟩
 rw [hn5] at hv5
 subst hv5
 clear hR hb hn5
 have o0 := (blk_cell R5.out 0).trans rfl
 have o1 := (blk_cell R5.out 1).trans rfl
 have o2 := (blk_cell R5.out 2).trans rfl
 have fo0 := blk_frozen R5.out 0
 have fo1 := blk_frozen R5.out 1
 have fo2 := blk_frozen R5.out 2
 refine hK.out _ _ ?_
 clear hK K
 refine norm_ (a' := ?_) ?_ ?_
 rotate_left
 ·show Act.put _ (some 18) _ = _
  simp only [Act.put, List.setIfInBounds_toArray, List.set_cons_zero, List.set_cons_succ, i64_w, i32_w]
  rfl
 refine last_ (i := 8) (N := none) #[tt_,tt_,tt_,tt_,tt_,tt_,tt_,tt_,tt_,ff_] rfl rfl (by kernel_rfl) (by decide) (fun K hK => ?_)
 refine skip_ (w1 := ?_) (by rfl) rfl ?_ ?_
 rotate_left
 ·go_simp
  rfl
 refine hK.out _ _ ?_
 clear hK K
 refine pure_ (i := 9) (N := some 3) (v := ?_) (a' := ?_) #[tt_,tt_,tt_,tt_,tt_,tt_,tt_,tt_,tt_,tt_] rfl rfl (by kernel_rfl) (fun _ _ _ h => h) (Or.inl ⟨by rfl, ?_⟩) ?_ ?_
 rotate_left
 ·intro w'
  go_simp
  with_reducible rfl
 rotate_left
 ·simp only [Act.put, List.setIfInBounds_toArray, List.set_cons_zero, List.set_cons_succ, i64_w, i32_w]
  rfl
 refine done_ (by kernel_rfl) ?_
 obtain ⟨wz, hwz⟩ : ∃ wz, wz = ((w5.setCell ⟨gR, 0, none⟩ (.int .i64 ((hf W : Nat) : Int))).setCell ⟨gR, 1, none⟩ (.int .i64 ((hf H : Nat) : Int))).setCell ⟨gR, 2, none⟩ (.slice A5 n5 c5) := ⟨_, rfl⟩
 rw [← hwz]
 obtain ⟨hGz, hstz, hblz⟩ := put3 R5.out hwz
 try go_wp2
 refine bodyPost_ret (results_ct rfl _ _ gR 25 #[.int .i64 ((hf W : Nat) : Int), .int .i64 ((hf H : Nat) : Int), .slice A5 n5 c5] (0, 0) _ rfl hGz Try.underlying25 rfl (by kernel_rfl)) rfl ?_
 exact ⟨_, rfl, Kd.R_mono (Kd.R_move (Kd.R_types V5.out R5.out (by decide)) (fun k hk => hstz k hk.2)) (fun _ _ => trivial), B5.out.trans (hblz _ GR.out)⟩
end Go.Proofs.Ytodlgdpkadkjjaa.A
end
section
set_option linter.unusedVariables false
set_option linter.unusedSimpArgs false
namespace Go.Proofs.Ytodlgdpkadkjjaa.A
open Go.RowKit Go.Shelf Go.Proofs.YtodlgdpkadkjjaaW.PrintWords Go.Proofs.YtodlgdpkadkjjaaW.PrintLast Go.Proofs.YtodlgdpkadkjjaaW.PrintMore Go.Proofs.Ytodlgdpkadkjjaa.PPyramidLevels

theorem New_bad (x y : Int) (s : Nat) (w : World) (h : sizeB x y = false) :
    Calls Try.prog 24 #[.int .i64 x, .int .i64 y, .int .u32 (s : Int)] w fun e w' => ∃ A c, e = .returned (.tuple #[.agg #[.int .i64 0, .int .i64 0, .slice A 0 c], .int .i64 50]) ∧ Below w.heap.size w w' := by
 refine (New_calls x y s w).mono ?_
 rw [h]
 rintro e w' ⟨v, rfl, hR, hb⟩
 obtain ⟨A, c, rfl⟩ := Kd.R_slice hR
 exact ⟨A, c, rfl, hb⟩
theorem sizeB_nat {W H : Nat} (h1 : 0 < W) (h2 : 0 < H) (h3 : W ≤ 1024) (h4 : H ≤ 1024) (h5 : W * H ≤ 65536) : sizeB (W : Int) (H : Int) = true := by
 unfold sizeB
 simp only [Bool.and_eq_true, decide_eq_true_eq]
 refine ⟨⟨⟨⟨by omega, by omega⟩, by omega⟩, by omega⟩, ?_⟩
 have h : ((W * H : Nat) : Int) ≤ 65536 := by omega
 simpa using h
theorem sizeB_of {x y : Int} (h : sizeB x y = true) : ∃ W H : Nat, x = W ∧ y = H ∧ 0 < W ∧ 0 < H ∧ W ≤ 1024 ∧ H ≤ 1024 ∧ W * H ≤ 65536 := by
 obtain ⟨h1, h2, h3, h4, h5⟩ := sizeB_true h
 obtain ⟨W, rfl⟩ : ∃ W : Nat, x = W := ⟨x.toNat, by omega⟩
 obtain ⟨H, rfl⟩ : ∃ H : Nat, y = H := ⟨y.toNat, by omega⟩
 refine ⟨W, H, rfl, rfl, by omega, by omega, by omega, by omega, ?_⟩
 have : ((W * H : Nat) : Int) ≤ 65536 := by simpa using h5
 omega
theorem New_ok (W H s : Nat) (w : World) (h1 : 0 < W) (h2 : 0 < H) (h3 : W ≤ 1024) (h4 : H ≤ 1024) (h5 : W * H ≤ 65536) :
    Calls Try.prog 24 #[.int .i64 (W : Int), .int .i64 (H : Int), .int .u32 (s : Int)] w fun e w' => ∃ v, e = .returned (.tuple #[.agg #[.int .i64 (W : Int), .int .i64 (H : Int), v], .int .i64 0]) ∧ (nat .u32).R 50 w' w.heap.size (fun _ => True) v (List.replicate (W * H) s) ∧ Below w.heap.size w w' := by
 refine (New_calls (W : Int) (H : Int) s w).mono ?_
 rw [sizeB_nat h1 h2 h3 h4 h5]
 rintro e w' ⟨v, rfl, hR, hb⟩
 have e1 : ((W : Int) * (H : Int)).toNat = W * H := by rw [← Int.natCast_mul, Int.toNat_natCast]
 rw [if_pos rfl, e1] at hR
 exact ⟨v, rfl, hR, hb⟩
theorem New0_bad (x y : Int) (w : World) (h : sizeB x y = false) :
    Calls Try.prog 24 #[.int .i64 x, .int .i64 y, .int .u32 0] w fun e w' => ∃ A c, e = .returned (.tuple #[.agg #[.int .i64 0, .int .i64 0, .slice A 0 c], .int .i64 50]) ∧ Below w.heap.size w w' := New_bad x y 0 w h
theorem New0_ok (W H : Nat) (w : World) (h : 0 < W ∧ 0 < H ∧ W ≤ 1024 ∧ H ≤ 1024 ∧ W * H ≤ 65536) :
    Calls Try.prog 24 #[.int .i64 (W : Int), .int .i64 (H : Int), .int .u32 0] w fun e w' => ∃ A n c, e = .returned (.tuple #[.agg #[.int .i64 (W : Int), .int .i64 (H : Int), .slice A n c], .int .i64 0]) ∧ Below w.heap.size w w' := by
 refine (New_ok W H 0 w h.1 h.2.1 h.2.2.1 h.2.2.2.1 h.2.2.2.2).mono ?_
 rintro e w' ⟨v, rfl, hR, hb⟩
 obtain ⟨A, c, rfl⟩ := Kd.R_slice hR
 exact ⟨A, _, c, rfl, hb⟩
set_option maxHeartbeats 4000000 in
set_option maxRecDepth 100000 in
theorem Expand_size (W H : Nat) (xs : List Nat) (A : Option Addr) (n cap : Nat) (wx hx : Int) (w : World) (hp : (Pl.mk W H xs).ok) (hn : xs.length = n) (hS : sizeB wx hx = false) :
    Calls Try.prog 20 #[.agg #[.int .i64 (W : Int), .int .i64 (H : Int), .slice A n cap], .int .i64 wx, .int .i64 hx] w fun e w' => e = .returned (.tuple #[.agg #[.int .i64 0, .int .i64 0, .slice none 0 0], .int .i64 141]) ∧ Below w.heap.size w w' := by
 have hu25 := Try.underlying25
 have HE : Aside0 (checkE (W : Int) (H : Int) n = 0) := ⟨by rw [← hn]; exact hp.checkE⟩
 have HP := Aside0.mk hp
 obtain ⟨p1, p2, p3, p4, p5, p6, p7⟩ := hp
 have p5 : W * H ≤ 65536 := p5
 have p6 : xs.length = W * H := p6
 have HNL : Aside0 (n < 9223372036854775808) := ⟨by omega⟩
 have HXN := Aside0.mk hn
 have HSB := Aside0.mk hS
 clear p1 p2 p3 p4 p5 p6 p7 hn hS
 go_enter Try.func20, Try.ntmps20
 go_upto_region 5 with (first | ((with_reducible refine gate_dst (N := 3) rfl ?_); refine box_event ?hg (N := 3) ?hd (cs := #[.int .i64 (W : Int), .int .i64 (H : Int), .slice A n cap]) (t := 25) ?hr ?_; (case hd => rfl); (case hg => rfl); (case hr => first | (go_simp; done) | (go_simp; rfl)); intro gP hg_ w1 hm_ hb_; have P1 := Aside0.mk (hm_); have B1 := Aside0.mk (hb_); clear hm_ hb_ hg_) | ((with_reducible refine gate_dst (N := 6) rfl ?_); refine box_event ?hg (N := 6) ?hd (cs := #[.int .i64 0, .int .i64 0, .slice none 0 0]) (t := 25) ?hr ?_; (case hd => rfl); (case hg => rfl); (case hr => first | (go_simp; done) | (go_simp; rfl)); intro gR hg_ w2 hm_ hb_; have R2 := Aside0.mk (hm_); have P2 := Aside0.mk (blk_below P1.out hb_); have B2 := Aside0.mk (below_step B1.out hb_); have GR := Aside0.mk (show w.heap.size ≤ gR by rw [hg_]; exact below_size B1.out); have NPR := Aside0.mk (show gP ≠ gR by rw [hg_]; have := blk_lt P1.out; omega); have p0 := (blk_cell P2.out 0).trans rfl; have p1 := (blk_cell P2.out 1).trans rfl; have p2 := (blk_cell P2.out 2).trans rfl; clear hm_ hb_ hg_ P1 B1) | (go_at_call 51; refine (Check_calls (W : Int) (H : Int) A n cap _ HNL.out).mono ?_; rw [HE.out]; rintro e w3 ⟨rfl, hb⟩; have P3 := Aside0.mk (blk_below P2.out hb); have R3 := Aside0.mk (blk_below R2.out hb); have B3 := Aside0.mk (below_step B2.out hb); clear hb p0 p1 p2; have o0 := (blk_cell R3.out 0).trans rfl; have o1 := (blk_cell R3.out 1).trans rfl; have o2 := (blk_cell R3.out 2).trans rfl; have fo0 := blk_frozen R3.out 0; have fo1 := blk_frozen R3.out 1; have fo2 := blk_frozen R3.out 2) | (go_at_call 24; refine (New0_bad wx hx _ HSB.out).mono ?_; rintro e w4 ⟨A4, c4, rfl, hb⟩; have P4 := Aside0.mk (blk_below P3.out hb); have R4 := Aside0.mk (blk_below R3.out hb); have B4 := Aside0.mk (below_step B3.out hb); clear hb) | ((with_reducible refine gate_dst (N := 9) rfl ?_); refine box_event ?hg (N := 9) ?hd (cs := #[.int .i64 0, .int .i64 0, .slice none 0 0]) (t := 25) ?hr ?_; (case hd => rfl); (case hg => rfl); (case hr => first | (go_simp; done) | (go_simp; rfl)); intro gQ hg_ w5 hm_ hb_; have X_ := Aside0.mk (put3 (x := .int .i64 0) (y := .int .i64 0) (z := .slice A4 0 c4) hm_ rfl); have NPQ := Aside0.mk (show gP ≠ gQ by rw [hg_]; have := blk_lt P4.out; omega); have NRQ := Aside0.mk (show gR ≠ gQ by rw [hg_]; have := blk_lt R4.out; omega); have GQ := Aside0.mk (show w.heap.size ≤ gQ by rw [hg_]; exact below_size B4.out); have P6 := Aside0.mk ((X_.out.2.1 gP NPQ.out).trans (blk_below P4.out hb_)); have R6 := Aside0.mk ((X_.out.2.1 gR NRQ.out).trans (blk_below R4.out hb_)); have B6 := Aside0.mk ((below_step B4.out hb_).trans (X_.out.2.2 _ GQ.out)); have M_ := Aside0.mk hm_; have o0 := (blk_cell M_.out 0).trans rfl; have o1 := (blk_cell M_.out 1).trans rfl; have o2 := (blk_cell M_.out 2).trans rfl; have fo0 := blk_frozen M_.out 0; have fo1 := blk_frozen M_.out 1; have fo2 := blk_frozen M_.out 2; clear hm_ hb_ hg_ X_ M_))
 generalize ((w5.setCell ⟨gQ, 0, none⟩ (.int .i64 0)).setCell ⟨gQ, 1, none⟩ (.int .i64 0)).setCell ⟨gQ, 2, none⟩ (.slice A4 0 c4) = w6 at *
 have P7 := Aside0.mk (blk_drew P6.out)
 have R7 := Aside0.mk (blk_drew R6.out)
 have B7 : Aside0 (Below w.heap.size w w6.drew) := ⟨below_drew1 B6.out⟩
 clear P2 R2 B2 P3 R3 B3 P4 R4 B4 P6 R6 B6 o0 o1 o2 fo0 fo1 fo2
 refine start_ (n := 16) (S := fun w' => w'.cell? ⟨gP, 0, none⟩ = some (.int .i64 (W : Int)) ∧ w'.cell? ⟨gP, 1, none⟩ = some (.int .i64 (H : Int))) (ds := []) #[ff_,ff_,ff_,ff_,ff_,ff_,ff_,ff_,ff_,ff_,ff_,ff_,ff_,ff_,ff_,ff_] (by kernel_rfl) rfl rfl ⟨(blk_cell P7.out 0).trans rfl, (blk_cell P7.out 1).trans rfl⟩ (fun hHeld => ?_)
 generalize w6.drew = wd at *
 refine pure_ (i := 0) (N := some 23) (v := ?_) (a' := ?_) #[tt_,ff_,ff_,ff_,ff_,ff_,ff_,ff_,ff_,ff_,ff_,ff_,ff_,ff_,ff_,ff_] rfl rfl (by kernel_rfl) (fun _ _ _ h => h) (Or.inl ⟨by rfl, ?_⟩) ?_ ?_
 rotate_left
 ·intro w'
  go_simp
  with_reducible rfl
 rotate_left
 ·simp only [Act.put, List.setIfInBounds_toArray, List.set_cons_zero, List.set_cons_succ, i64_w, i32_w]
  rfl
 refine pure_ (i := 1) (N := some 24) (v := ?_) (a' := ?_) #[tt_,tt_,ff_,ff_,ff_,ff_,ff_,ff_,ff_,ff_,ff_,ff_,ff_,ff_,ff_,ff_] rfl rfl (by kernel_rfl) (fun _ _ _ h => h) (Or.inl ⟨by rfl, ?_⟩) ?_ ?_
 rotate_left
 ·intro w'
  go_simp
  with_reducible rfl
 rotate_left
 ·simp only [Act.put, List.setIfInBounds_toArray, List.set_cons_zero, List.set_cons_succ, i64_w, i32_w]
  rfl
 refine pure_ (i := 2) (N := some 25) (v := ?_) (a' := ?_) #[tt_,tt_,tt_,ff_,ff_,ff_,ff_,ff_,ff_,ff_,ff_,ff_,ff_,ff_,ff_,ff_] rfl rfl (by kernel_rfl) (fun _ _ _ h => h) (Or.inl ⟨by rfl, ?_⟩) ?_ ?_
 rotate_left
 ·intro w'
  go_simp
  with_reducible rfl
 rotate_left
 ·simp only [Act.put, List.setIfInBounds_toArray, List.set_cons_zero, List.set_cons_succ, i64_w, i32_w]
  rfl
 refine pure_ (i := 3) (N := some 26) (v := undef) (a' := ?_) #[tt_,tt_,tt_,tt_,ff_,ff_,ff_,ff_,ff_,ff_,ff_,ff_,ff_,ff_,ff_,ff_] rfl rfl (by kernel_rfl) (fun _ _ _ h => h) (Or.inr ⟨by rfl, rfl⟩) ?_ ?_
 rotate_left
 ·simp only [Act.put, List.setIfInBounds_toArray, List.set_cons_zero, List.set_cons_succ, i64_w, i32_w]
  rfl
 refine pure_ (i := 4) (N := some 27) (v := undef) (a' := ?_) #[tt_,tt_,tt_,tt_,tt_,ff_,ff_,ff_,ff_,ff_,ff_,ff_,ff_,ff_,ff_,ff_] rfl rfl (by kernel_rfl) (fun _ _ _ h => h) (Or.inr ⟨by rfl, rfl⟩) ?_ ?_
 rotate_left
 ·simp only [Act.put, List.setIfInBounds_toArray, List.set_cons_zero, List.set_cons_succ, i64_w, i32_w]
  rfl
 refine pure_ (i := 5) (N := some 28) (v := undef) (a' := ?_) #[tt_,tt_,tt_,tt_,tt_,tt_,ff_,ff_,ff_,ff_,ff_,ff_,ff_,ff_,ff_,ff_] rfl rfl (by kernel_rfl) (fun _ _ _ h => h) (Or.inr ⟨by rfl, rfl⟩) ?_ ?_
 rotate_left
 ·simp only [Act.put, List.setIfInBounds_toArray, List.set_cons_zero, List.set_cons_succ, i64_w, i32_w]
  rfl
 refine pure_ (i := 6) (N := some 29) (v := undef) (a' := ?_) #[tt_,tt_,tt_,tt_,tt_,tt_,tt_,ff_,ff_,ff_,ff_,ff_,ff_,ff_,ff_,ff_] rfl rfl (by kernel_rfl) (fun _ _ _ h => h) (Or.inr ⟨by rfl, rfl⟩) ?_ ?_
 rotate_left
 ·simp only [Act.put, List.setIfInBounds_toArray, List.set_cons_zero, List.set_cons_succ, i64_w, i32_w]
  rfl
 refine pure_ (i := 7) (N := some 30) (v := undef) (a' := ?_) #[tt_,tt_,tt_,tt_,tt_,tt_,tt_,tt_,ff_,ff_,ff_,ff_,ff_,ff_,ff_,ff_] rfl rfl (by kernel_rfl) (fun _ _ _ h => h) (Or.inr ⟨by rfl, rfl⟩) ?_ ?_
 rotate_left
 ·simp only [Act.put, List.setIfInBounds_toArray, List.set_cons_zero, List.set_cons_succ, i64_w, i32_w]
  rfl
 refine pure_ (i := 8) (N := some 31) (v := ?_) (a' := ?_) #[tt_,tt_,tt_,tt_,tt_,tt_,tt_,tt_,tt_,ff_,ff_,ff_,ff_,ff_,ff_,ff_] rfl rfl (by kernel_rfl) (fun _ _ _ h => h) (Or.inl ⟨by rfl, ?_⟩) ?_ ?_
 rotate_left
 ·intro w'
  go_simp
  with_reducible rfl
 rotate_left
 ·simp only [Act.put, List.setIfInBounds_toArray, List.set_cons_zero, List.set_cons_succ, i64_w, i32_w]
  rfl
 refine pure_ (i := 9) (N := some 32) (v := ?_) (a' := ?_) #[tt_,tt_,tt_,tt_,tt_,tt_,tt_,tt_,tt_,tt_,ff_,ff_,ff_,ff_,ff_,ff_] rfl rfl (by kernel_rfl) (fun _ _ _ h => h) (Or.inl ⟨by rfl, ?_⟩) ?_ ?_
 rotate_left
 ·intro w'
  go_simp
  with_reducible rfl
 rotate_left
 ·simp only [Act.put, List.setIfInBounds_toArray, List.set_cons_zero, List.set_cons_succ, i64_w, i32_w]
  rfl
 refine pure_ (i := 10) (N := some 33) (v := undef) (a' := ?_) #[tt_,tt_,tt_,tt_,tt_,tt_,tt_,tt_,tt_,tt_,tt_,ff_,ff_,ff_,ff_,ff_] rfl rfl (by kernel_rfl) (fun _ _ _ h => h) (Or.inr ⟨by rfl, rfl⟩) ?_ ?_
 rotate_left
 ·simp only [Act.put, List.setIfInBounds_toArray, List.set_cons_zero, List.set_cons_succ, i64_w, i32_w]
  rfl
 refine pure_ (i := 11) (N := some 34) (v := undef) (a' := ?_) #[tt_,tt_,tt_,tt_,tt_,tt_,tt_,tt_,tt_,tt_,tt_,tt_,ff_,ff_,ff_,ff_] rfl rfl (by kernel_rfl) (fun _ _ _ h => h) (Or.inr ⟨by rfl, rfl⟩) ?_ ?_
 rotate_left
 ·simp only [Act.put, List.setIfInBounds_toArray, List.set_cons_zero, List.set_cons_succ, i64_w, i32_w]
  rfl
 refine pure_ (i := 12) (N := some 35) (v := undef) (a' := ?_) #[tt_,tt_,tt_,tt_,tt_,tt_,tt_,tt_,tt_,tt_,tt_,tt_,tt_,ff_,ff_,ff_] rfl rfl (by kernel_rfl) (fun _ _ _ h => h) (Or.inr ⟨by rfl, rfl⟩) ?_ ?_
 rotate_left
 ·simp only [Act.put, List.setIfInBounds_toArray, List.set_cons_zero, List.set_cons_succ, i64_w, i32_w]
  rfl
 refine pure_ (i := 13) (N := some 36) (v := undef) (a' := ?_) #[tt_,tt_,tt_,tt_,tt_,tt_,tt_,tt_,tt_,tt_,tt_,tt_,tt_,tt_,ff_,ff_] rfl rfl (by kernel_rfl) (fun _ _ _ h => h) (Or.inr ⟨by rfl, rfl⟩) ?_ ?_
 rotate_left
 ·simp only [Act.put, List.setIfInBounds_toArray, List.set_cons_zero, List.set_cons_succ, i64_w, i32_w]
  rfl
 refine pure_ (i := 14) (N := some 37) (v := undef) (a' := ?_) #[tt_,tt_,tt_,tt_,tt_,tt_,tt_,tt_,tt_,tt_,tt_,tt_,tt_,tt_,tt_,ff_] rfl rfl (by kernel_rfl) (fun _ _ _ h => h) (Or.inr ⟨by rfl, rfl⟩) ?_ ?_
 rotate_left
 ·simp only [Act.put, List.setIfInBounds_toArray, List.set_cons_zero, List.set_cons_succ, i64_w, i32_w]
  rfl
 refine pure_ (i := 15) (N := some 38) (v := ?_) (a' := ?_) #[tt_,tt_,tt_,tt_,tt_,tt_,tt_,tt_,tt_,tt_,tt_,tt_,tt_,tt_,tt_,tt_] rfl rfl (by kernel_rfl) (fun _ _ _ h => h) (Or.inl ⟨by rfl, ?_⟩) ?_ ?_
 rotate_left
 ·intro w'
  go_simp
  with_reducible rfl
 rotate_left
 ·simp only [Act.put, List.setIfInBounds_toArray, List.set_cons_zero, List.set_cons_succ, i64_w, i32_w]
  rfl
 refine done_ (by kernel_rfl) ?_
 have o0 := (blk_cell R7.out 0).trans rfl
 have o1 := (blk_cell R7.out 1).trans rfl
 have o2 := (blk_cell R7.out 2).trans rfl
 have fo0 := blk_frozen R7.out 0
 have fo1 := blk_frozen R7.out 1
 have fo2 := blk_frozen R7.out 2
 go_wp2
 obtain ⟨wz, hwz⟩ : ∃ wz, wz = ((wd.setCell ⟨gR, 0, none⟩ (.int .i64 0)).setCell ⟨gR, 1, none⟩ (.int .i64 0)).setCell ⟨gR, 2, none⟩ (.slice none 0 0) := ⟨_, rfl⟩
 rw [← hwz]
 obtain ⟨hGz, hstz, hblz⟩ := put3 R7.out hwz
 refine bodyPost_ret (results_ct rfl _ _ gR 25 #[.int .i64 0, .int .i64 0, .slice none 0 0] (0, 0) _ rfl hGz Try.underlying25 rfl (by kernel_rfl)) rfl ?_
 exact ⟨rfl, B7.out.trans (hblz _ GR.out)⟩
set_option maxHeartbeats 4000000 in
set_option maxRecDepth 100000 in
theorem Expand_ok (W H : Nat) (xs : List Nat) (A : Option Addr) (n cap : Nat) (wn hn_ : Nat) (w : World) (hp : (Pl.mk W H xs).ok) (hn : xs.length = n) (hS : 0 < wn ∧ 0 < hn_ ∧ wn ≤ 1024 ∧ hn_ ≤ 1024 ∧ wn * hn_ ≤ 65536) (hW : hf wn = W) (hH : hf hn_ = H) (hC : (nat .u32).C w A n xs) (hcap : n ≤ cap) :
    Calls Try.prog 20 #[.agg #[.int .i64 (W : Int), .int .i64 (H : Int), .slice A n cap], .int .i64 (wn : Int), .int .i64 (hn_ : Int)] w fun e w' => ∃ v, e = .returned (.tuple #[.agg #[.int .i64 (wn : Int), .int .i64 (hn_ : Int), v], .int .i64 0]) ∧ (nat .u32).R 50 w' w.heap.size (fun _ => True) v (expS W H wn hn_ xs) ∧ Below w.heap.size w w' := by
 have hu25 := Try.underlying25
 have HE : Aside0 (checkE (W : Int) (H : Int) n = 0) := ⟨by rw [← hn]; exact hp.checkE⟩
 have HP := Aside0.mk hp
 obtain ⟨p1, p2, p3, p4, p5, p6, p7⟩ := hp
 have p5 : W * H ≤ 65536 := p5
 have p6 : xs.length = W * H := p6
 have HNL : Aside0 (n < 9223372036854775808) := ⟨by omega⟩
 have HXN := Aside0.mk hn
 have HSO := Aside0.mk hS
 have HWN : Aside0 (wn < 1000000) := ⟨by omega⟩
 have HHN : Aside0 (hn_ < 1000000) := ⟨by omega⟩
 have t1 : (((hf wn : Nat) : Int) != (W : Int)) = false := by rw [bne_eq_false_iff_eq]; omega
 have t2 : (((hf hn_ : Nat) : Int) != (H : Int)) = false := by rw [bne_eq_false_iff_eq]; omega
 have HH1 : Aside0 (1 ≤ wn ∧ wn ≤ 1024) := ⟨by omega⟩
 have HH2 : Aside0 (1 ≤ hn_ ∧ hn_ ≤ 1024) := ⟨by omega⟩
 have HC := Aside0.mk hC
 have HCAP := Aside0.mk hcap
 clear p1 p2 p3 p4 p5 p6 p7 hn hS hC hcap
 clear hW hH
 go_enter Try.func20, Try.ntmps20
 go_upto_region 5 with (first | ((with_reducible refine gate_dst (N := 3) rfl ?_); refine box_event ?hg (N := 3) ?hd (cs := #[.int .i64 (W : Int), .int .i64 (H : Int), .slice A n cap]) (t := 25) ?hr ?_; (case hd => rfl); (case hg => rfl); (case hr => first | (go_simp; done) | (go_simp; rfl)); intro gP hg_ w1 hm_ hb_; have P1 := Aside0.mk (hm_); have B1 := Aside0.mk (hb_); clear hm_ hb_ hg_) | ((with_reducible refine gate_dst (N := 6) rfl ?_); refine box_event ?hg (N := 6) ?hd (cs := #[.int .i64 0, .int .i64 0, .slice none 0 0]) (t := 25) ?hr ?_; (case hd => rfl); (case hg => rfl); (case hr => first | (go_simp; done) | (go_simp; rfl)); intro gR hg_ w2 hm_ hb_; have R2 := Aside0.mk (hm_); have P2 := Aside0.mk (blk_below P1.out hb_); have B2 := Aside0.mk (below_step B1.out hb_); have GR := Aside0.mk (show w.heap.size ≤ gR by rw [hg_]; exact below_size B1.out); have NPR := Aside0.mk (show gP ≠ gR by rw [hg_]; have := blk_lt P1.out; omega); have p0 := (blk_cell P2.out 0).trans rfl; have p1 := (blk_cell P2.out 1).trans rfl; have p2 := (blk_cell P2.out 2).trans rfl; clear hm_ hb_ hg_ P1 B1) | (go_at_call 51; refine (Check_calls (W : Int) (H : Int) A n cap _ HNL.out).mono ?_; rw [HE.out]; rintro e w3 ⟨rfl, hb⟩; have P3 := Aside0.mk (blk_below P2.out hb); have R3 := Aside0.mk (blk_below R2.out hb); have B3 := Aside0.mk (below_step B2.out hb); clear hb p0 p1 p2; have o0 := (blk_cell R3.out 0).trans rfl; have o1 := (blk_cell R3.out 1).trans rfl; have o2 := (blk_cell R3.out 2).trans rfl; have fo0 := blk_frozen R3.out 0; have fo1 := blk_frozen R3.out 1; have fo2 := blk_frozen R3.out 2) | (go_at_call 24; refine (New0_ok wn hn_ _ HSO.out).mono ?_; rintro e w4 ⟨A4, n4, c4, rfl, hb⟩; have P4 := Aside0.mk (blk_below P3.out hb); have R4 := Aside0.mk (blk_below R3.out hb); have B4 := Aside0.mk (below_step B3.out hb); clear hb) | ((with_reducible refine gate_dst (N := 9) rfl ?_); refine box_event ?hg (N := 9) ?hd (cs := #[.int .i64 0, .int .i64 0, .slice none 0 0]) (t := 25) ?hr ?_; (case hd => rfl); (case hg => rfl); (case hr => first | (go_simp; done) | (go_simp; rfl)); intro gQ hg_ w5 hm_ hb_; have X_ := Aside0.mk (put3 (x := .int .i64 (wn : Int)) (y := .int .i64 (hn_ : Int)) (z := .slice A4 n4 c4) hm_ rfl); have NPQ := Aside0.mk (show gP ≠ gQ by rw [hg_]; have := blk_lt P4.out; omega); have NRQ := Aside0.mk (show gR ≠ gQ by rw [hg_]; have := blk_lt R4.out; omega); have GQ := Aside0.mk (show w.heap.size ≤ gQ by rw [hg_]; exact below_size B4.out); have P6 := Aside0.mk ((X_.out.2.1 gP NPQ.out).trans (blk_below P4.out hb_)); have R6 := Aside0.mk ((X_.out.2.1 gR NRQ.out).trans (blk_below R4.out hb_)); have B6 := Aside0.mk ((below_step B4.out hb_).trans (X_.out.2.2 _ GQ.out)); have M_ := Aside0.mk hm_; have o0 := (blk_cell M_.out 0).trans rfl; have o1 := (blk_cell M_.out 1).trans rfl; have o2 := (blk_cell M_.out 2).trans rfl; have fo0 := blk_frozen M_.out 0; have fo1 := blk_frozen M_.out 1; have fo2 := blk_frozen M_.out 2; clear hm_ hb_ hg_ X_ M_))
 generalize ((w5.setCell ⟨gQ, 0, none⟩ (.int .i64 (wn : Int))).setCell ⟨gQ, 1, none⟩ (.int .i64 (hn_ : Int))).setCell ⟨gQ, 2, none⟩ (.slice A4 n4 c4) = w6 at *
 have P7 := Aside0.mk (blk_drew P6.out)
 have R7 := Aside0.mk (blk_drew R6.out)
 have B7 : Aside0 (Below w.heap.size w w6.drew) := ⟨below_drew1 B6.out⟩
 clear P2 R2 B2 P3 R3 B3 P4 R4 B4 P6 R6 B6 o0 o1 o2 fo0 fo1 fo2
 refine start_ (n := 16) (S := fun w' => w'.cell? ⟨gP, 0, none⟩ = some (.int .i64 (W : Int)) ∧ w'.cell? ⟨gP, 1, none⟩ = some (.int .i64 (H : Int))) (ds := []) #[ff_,ff_,ff_,ff_,ff_,ff_,ff_,ff_,ff_,ff_,ff_,ff_,ff_,ff_,ff_,ff_] (by kernel_rfl) rfl rfl ⟨(blk_cell P7.out 0).trans rfl, (blk_cell P7.out 1).trans rfl⟩ (fun hHeld => ?_)
 generalize w6.drew = wd at *
 refine pure_ (i := 0) (N := some 23) (v := ?_) (a' := ?_) #[tt_,ff_,ff_,ff_,ff_,ff_,ff_,ff_,ff_,ff_,ff_,ff_,ff_,ff_,ff_,ff_] rfl rfl (by kernel_rfl) (fun _ _ _ h => h) (Or.inl ⟨by rfl, ?_⟩) ?_ ?_
 rotate_left
 ·intro w'
  go_simp
  with_reducible rfl
 rotate_left
 ·simp only [Act.put, List.setIfInBounds_toArray, List.set_cons_zero, List.set_cons_succ, i64_w, i32_w]
  rfl
 refine pure_ (i := 1) (N := some 24) (v := ?_) (a' := ?_) #[tt_,tt_,ff_,ff_,ff_,ff_,ff_,ff_,ff_,ff_,ff_,ff_,ff_,ff_,ff_,ff_] rfl rfl (by kernel_rfl) (fun _ _ _ h => h) (Or.inl ⟨by rfl, ?_⟩) ?_ ?_
 rotate_left
 ·intro w'
  go_simp
  with_reducible rfl
 rotate_left
 ·simp only [Act.put, List.setIfInBounds_toArray, List.set_cons_zero, List.set_cons_succ, i64_w, i32_w]
  rfl
 refine pure_ (i := 2) (N := some 25) (v := ?_) (a' := ?_) #[tt_,tt_,tt_,ff_,ff_,ff_,ff_,ff_,ff_,ff_,ff_,ff_,ff_,ff_,ff_,ff_] rfl rfl (by kernel_rfl) (fun _ _ _ h => h) (Or.inl ⟨by rfl, ?_⟩) ?_ ?_
 rotate_left
 ·intro w'
  go_simp
  with_reducible rfl
 rotate_left
 ·simp only [Act.put, List.setIfInBounds_toArray, List.set_cons_zero, List.set_cons_succ, i64_w, i32_w]
  rfl
 refine pure_ (i := 3) (N := some 26) (v := ?_) (a' := ?_) #[tt_,tt_,tt_,tt_,ff_,ff_,ff_,ff_,ff_,ff_,ff_,ff_,ff_,ff_,ff_,ff_] rfl rfl (by kernel_rfl) (fun _ _ _ h => h) (Or.inl ⟨by rfl, ?_⟩) ?_ ?_
 rotate_left
 ·intro w'
  go_simp
  with_reducible rfl
 rotate_left
 ·simp only [Act.put, List.setIfInBounds_toArray, List.set_cons_zero, List.set_cons_succ, i64_w, i32_w]
  rfl
 refine pure_ (i := 5) (N := some 28) (v := ?_) (a' := ?_) #[tt_,tt_,tt_,tt_,ff_,tt_,ff_,ff_,ff_,ff_,ff_,ff_,ff_,ff_,ff_,ff_] rfl rfl (by kernel_rfl) (fun _ _ _ h => h) (Or.inl ⟨by rfl, ?_⟩) ?_ ?_
 rotate_left
 ·intro w'
  go_simp
  with_reducible rfl
 rotate_left
 ·simp only [Act.put, List.setIfInBounds_toArray, List.set_cons_zero, List.set_cons_succ, i64_w, i32_w]
  rfl
 refine take_ (i := 6) (N := some 29) (v := ?_) (a' := ?_) #[tt_,tt_,tt_,tt_,ff_,tt_,tt_,ff_,ff_,ff_,ff_,ff_,ff_,ff_,ff_,ff_] rfl rfl (by kernel_rfl) (fun _ _ _ h => h) (Or.inl ⟨by rfl, ?_⟩) hHeld ?_ ?_
 rotate_left
 ·rintro w' ⟨s0, s1⟩
  go_simp
  with_reducible rfl
 rotate_left
 ·simp only [Act.put, List.setIfInBounds_toArray, List.set_cons_zero, List.set_cons_succ, i64_w, i32_w]
  rfl
 refine one_ (i := 4) (N := some 27) #[tt_,tt_,tt_,tt_,tt_,tt_,tt_,ff_,ff_,ff_,ff_,ff_,ff_,ff_,ff_,ff_] rfl rfl (by kernel_rfl) (by decide) (fun K hK => ?_)
 refine goes_ Try.func53 (by kernel_rfl) rfl #[.int .i64 (wn : Int)] (by rfl) rfl rfl (by (try simp only [List.map_toArray, List.map_cons, List.map_nil]); rfl) ?_
 with_reducible refine (half_calls wn _ HWN.out).mono ?_
 rintro e _ ⟨rfl, rfl⟩
 refine ⟨_, rfl, ?_⟩
 refine hK.out _ _ ⟨(blk_cell P7.out 0).trans rfl, (blk_cell P7.out 1).trans rfl⟩ (fun hHeld => ?_)
 clear hK K
 refine norm_ (a' := ?_) ?_ ?_
 rotate_left
 ·show Act.put _ (some 27) _ = _
  simp only [Act.put, List.setIfInBounds_toArray, List.set_cons_zero, List.set_cons_succ, i64_w, i32_w]
  rfl
 refine pure_ (i := 7) (N := some 30) (v := ?_) (a' := ?_) #[tt_,tt_,tt_,tt_,tt_,tt_,tt_,tt_,ff_,ff_,ff_,ff_,ff_,ff_,ff_,ff_] rfl rfl (by kernel_rfl) (fun _ _ _ h => h) (Or.inl ⟨by rfl, ?_⟩) ?_ ?_
 rotate_left
 ·intro w'
  go_simp
  with_reducible rfl
 rotate_left
 ·simp only [Act.put, List.setIfInBounds_toArray, List.set_cons_zero, List.set_cons_succ, i64_w, i32_w]
  rfl
 refine pure_ (i := 8) (N := some 31) (v := ?_) (a' := ?_) #[tt_,tt_,tt_,tt_,tt_,tt_,tt_,tt_,tt_,ff_,ff_,ff_,ff_,ff_,ff_,ff_] rfl rfl (by kernel_rfl) (fun _ _ _ h => h) (Or.inl ⟨by rfl, ?_⟩) ?_ ?_
 rotate_left
 ·intro w'
  go_simp
  with_reducible rfl
 rotate_left
 ·simp only [Act.put, List.setIfInBounds_toArray, List.set_cons_zero, List.set_cons_succ, i64_w, i32_w]
  rfl
 refine pure_ (i := 9) (N := some 32) (v := ?_) (a' := ?_) #[tt_,tt_,tt_,tt_,tt_,tt_,tt_,tt_,tt_,tt_,ff_,ff_,ff_,ff_,ff_,ff_] rfl rfl (by kernel_rfl) (fun _ _ _ h => h) (Or.inl ⟨by rfl, ?_⟩) ?_ ?_
 rotate_left
 ·intro w'
  go_simp
  with_reducible rfl
 rotate_left
 ·simp only [Act.put, List.setIfInBounds_toArray, List.set_cons_zero, List.set_cons_succ, i64_w, i32_w]
  rfl
 refine pure_ (i := 10) (N := some 33) (v := ?_) (a' := ?_) #[tt_,tt_,tt_,tt_,tt_,tt_,tt_,tt_,tt_,tt_,tt_,ff_,ff_,ff_,ff_,ff_] rfl rfl (by kernel_rfl) (fun _ _ _ h => h) (Or.inl ⟨by rfl, ?_⟩) ?_ ?_
 rotate_left
 ·intro w'
  go_simp
  with_reducible rfl
 rotate_left
 ·simp only [Act.put, List.setIfInBounds_toArray, List.set_cons_zero, List.set_cons_succ, i64_w, i32_w]
  rfl
 refine pure_ (i := 12) (N := some 35) (v := ?_) (a' := ?_) #[tt_,tt_,tt_,tt_,tt_,tt_,tt_,tt_,tt_,tt_,tt_,ff_,tt_,ff_,ff_,ff_] rfl rfl (by kernel_rfl) (fun _ _ _ h => h) (Or.inl ⟨by rfl, ?_⟩) ?_ ?_
 rotate_left
 ·intro w'
  go_simp
  with_reducible rfl
 rotate_left
 ·simp only [Act.put, List.setIfInBounds_toArray, List.set_cons_zero, List.set_cons_succ, i64_w, i32_w]
  rfl
 refine take_ (i := 13) (N := some 36) (v := ?_) (a' := ?_) #[tt_,tt_,tt_,tt_,tt_,tt_,tt_,tt_,tt_,tt_,tt_,ff_,tt_,tt_,ff_,ff_] rfl rfl (by kernel_rfl) (fun _ _ _ h => h) (Or.inl ⟨by rfl, ?_⟩) hHeld ?_ ?_
 rotate_left
 ·rintro w' ⟨s0, s1⟩
  go_simp
  with_reducible rfl
 rotate_left
 ·simp only [Act.put, List.setIfInBounds_toArray, List.set_cons_zero, List.set_cons_succ, i64_w, i32_w]
  rfl
 refine one_ (i := 11) (N := some 34) #[tt_,tt_,tt_,tt_,tt_,tt_,tt_,tt_,tt_,tt_,tt_,tt_,tt_,tt_,ff_,ff_] rfl rfl (by kernel_rfl) (by decide) (fun K hK => ?_)
 refine goes_ Try.func53 (by kernel_rfl) rfl #[.int .i64 (hn_ : Int)] (by rfl) rfl rfl (by (try simp only [List.map_toArray, List.map_cons, List.map_nil]); rfl) ?_
 with_reducible refine (half_calls hn_ _ HHN.out).mono ?_
 rintro e _ ⟨rfl, rfl⟩
 refine ⟨_, rfl, ?_⟩
 refine hK.out _ _ ⟨(blk_cell P7.out 0).trans rfl, (blk_cell P7.out 1).trans rfl⟩ (fun hHeld => ?_)
 clear hK K
 refine norm_ (a' := ?_) ?_ ?_
 rotate_left
 ·show Act.put _ (some 34) _ = _
  simp only [Act.put, List.setIfInBounds_toArray, List.set_cons_zero, List.set_cons_succ, i64_w, i32_w]
  rfl
 refine pure_ (i := 14) (N := some 37) (v := ?_) (a' := ?_) #[tt_,tt_,tt_,tt_,tt_,tt_,tt_,tt_,tt_,tt_,tt_,tt_,tt_,tt_,tt_,ff_] rfl rfl (by kernel_rfl) (fun _ _ _ h => h) (Or.inl ⟨by rfl, ?_⟩) ?_ ?_
 rotate_left
 ·intro w'
  go_simp
  with_reducible rfl
 rotate_left
 ·simp only [Act.put, List.setIfInBounds_toArray, List.set_cons_zero, List.set_cons_succ, i64_w, i32_w]
  rfl
 refine pure_ (i := 15) (N := some 38) (v := ?_) (a' := ?_) #[tt_,tt_,tt_,tt_,tt_,tt_,tt_,tt_,tt_,tt_,tt_,tt_,tt_,tt_,tt_,tt_] rfl rfl (by kernel_rfl) (fun _ _ _ h => h) (Or.inl ⟨by rfl, ?_⟩) ?_ ?_
 rotate_left
 ·intro w'
  go_simp
  with_reducible rfl
 rotate_left
 ·simp only [Act.put, List.setIfInBounds_toArray, List.set_cons_zero, List.set_cons_succ, i64_w, i32_w]
  rfl
 refine done_ (by kernel_rfl) ?_
 have o0 := (blk_cell R7.out 0).trans rfl
 have o1 := (blk_cell R7.out 1).trans rfl
 have o2 := (blk_cell R7.out 2).trans rfl
 have fo0 := blk_frozen R7.out 0
 have fo1 := blk_frozen R7.out 1
 have fo2 := blk_frozen R7.out 2
 have p0 := (blk_cell P7.out 0).trans rfl
 have p1 := (blk_cell P7.out 1).trans rfl
 have p2 := (blk_cell P7.out 2).trans rfl
 go_wp2_with ((go_at_call 52; refine (resized_n 57 Try.f57 expandS expand_shape expand_good Try.func57 rfl rfl W H wn hn_ n cap A xs _ HP.out HH1.out HH2.out HXN.out (Kd.C_below HC.out B7.out) HCAP.out).mono ?_; rintro e w8 ⟨v8, rfl, hR, hb⟩; have V8 := Aside0.mk (Kd.R_lower hR B7.out.size); have R8 := Aside0.mk (blk_below R7.out hb); have B8 := Aside0.mk (below_step B7.out hb); obtain ⟨A8, c8, hv8⟩ := Kd.R_slice hR; obtain ⟨n8, hn8⟩ : ∃ n8, (resZ expandS W H wn hn_ xs).length = n8 := ⟨_, rfl⟩; rw [hn8] at hv8; subst hv8; clear hR hb hn8 o0 o1 o2 fo0 fo1 fo2; have o0 := (blk_cell R8.out 0).trans rfl; have o1 := (blk_cell R8.out 1).trans rfl; have o2 := (blk_cell R8.out 2).trans rfl; have fo0 := blk_frozen R8.out 0; have fo1 := blk_frozen R8.out 1; have fo2 := blk_frozen R8.out 2))
 obtain ⟨wz, hwz⟩ : ∃ wz, wz = ((w8.setCell ⟨gR, 0, none⟩ (.int .i64 (wn : Int))).setCell ⟨gR, 1, none⟩ (.int .i64 (hn_ : Int))).setCell ⟨gR, 2, none⟩ (.slice A8 n8 c8) := ⟨_, rfl⟩
 rw [← hwz]
 obtain ⟨hGz, hstz, hblz⟩ := put3 R8.out hwz
 refine bodyPost_ret (results_ct rfl _ _ gR 25 #[.int .i64 (wn : Int), .int .i64 (hn_ : Int), .slice A8 n8 c8] (0, 0) _ rfl hGz Try.underlying25 rfl (by kernel_rfl)) rfl ?_
 exact ⟨_, rfl, Kd.R_mono (Kd.R_move (Kd.R_types V8.out R8.out (by decide)) (fun k hk => hstz k hk.2)) (fun _ _ => trivial), B8.out.trans (hblz _ GR.out)⟩
end Go.Proofs.Ytodlgdpkadkjjaa.A
end
section
set_option linter.unusedVariables false
set_option linter.unusedSimpArgs false
namespace Go.Proofs.Ytodlgdpkadkjjaa.A
open Go.RowKit Go.Shelf Go.Proofs.YtodlgdpkadkjjaaW.PrintWords Go.Proofs.YtodlgdpkadkjjaaW.PrintLast Go.Proofs.YtodlgdpkadkjjaaW.PrintMore Go.Proofs.Ytodlgdpkadkjjaa.PPyramidLevels

theorem results_cct {P : Program} {fn : Func} {p p' u : Tmp} {ty ty' : TypeId} (h : fn.results = #[.cell p ty, .cell p' ty', .tmp u]) (tmps : Array Value) (w : World) (g g' : Nat) (t t' : TypeId) (cs cs' : Array Value) (fr fr' : Nat × Nat) (d d' : TypeDesc)
    (hp : tmps.getD p undef = .pointer (some ⟨g, 0, none⟩)) (hg : w.heap[g]? = some (.cells cs t fr))
    (hu : P.underlying ty = some d) (hd : (match d with | .struct _ | .array _ _ => true | _ => false) = true) (hi : (P.info? ty).map (·.size) = some cs.size)
    (hp' : tmps.getD p' undef = .pointer (some ⟨g', 0, none⟩)) (hg' : w.heap[g']? = some (.cells cs' t' fr'))
    (hu' : P.underlying ty' = some d') (hd' : (match d' with | .struct _ | .array _ _ => true | _ => false) = true) (hi' : (P.info? ty').map (·.size) = some cs'.size) :
    (results fn tmps).run P w = .ok (.tuple #[.agg cs, .agg cs', tmps.getD u undef]) w := by
 have h1 : tmps[p]?.getD undef = .pointer (some ⟨g, 0, none⟩) := by simpa using hp
 have h2 : tmps[p']?.getD undef = .pointer (some ⟨g', 0, none⟩) := by simpa using hp'
 simp [results, h, h1, h2, asAddr, run_loadVar_row w g t ty cs fr d hg hu hd hi, run_loadVar_row w g' t' ty' cs' fr' d' hg' hu' hd' hi']
section
variable {P : Program} {ops : Array Oper} {Q : Exit → Act → World → Prop} {o : Oper} {rest : List Oper} {a : Act}
theorem row_after {W : World} {g : Nat} {cells old : Array Value} {ty : TypeId} (hg : W.heap[g]? = some (.cells old ty (0, 0))) : (W.setRow g cells).heap[g]? = some (.cells cells ty (0, 0)) ∧ (∀ k, k ≠ g → (W.setRow g cells).heap[k]? = W.heap[k]?) ∧ (∀ B, B ≤ g → Below B W (W.setRow g cells)) :=
 ⟨setRow_heap W g old cells ty (0, 0) hg, fun k hk => setRow_other W g k cells hk, fun B hB => ⟨rfl, rfl, rfl, by simp [World.setRow], fun k hk => setRow_other W g k cells (by omega)⟩⟩
/-- a store of a struct into its box -/
theorem store_event {W : World} (hgd : o.guard = none) (hd : o.dst = none) {t : TypeId} {p v : Operand} (ho : o.op = .store t p v) (g : Nat) (cells old : Array Value) (ty : TypeId) (hp : a.eval p = .pointer (some ⟨g, 0, none⟩)) (hv : a.eval v = .agg cells) (hg : W.heap[g]? = some (.cells old ty (0, 0)))
    (hi : (P.info? t).map (·.size) = some cells.size) (hold : old.size = cells.size) (h1 : cells.all (·.oneCell') = true)
    (h : ∀ w1, w1.heap[g]? = some (.cells cells ty (0, 0)) → (∀ k, k ≠ g → w1.heap[k]? = W.heap[k]?) → (∀ B, B ≤ g → Below B W w1) → wpList P ops Q rest a w1) : wpList P ops Q (o :: rest) a W := by
 obtain ⟨r1, r2, r3⟩ := row_after (cells := cells) hg
 exact wpList_store_row hgd t p v ho g cells hp hv ty old hg hi hold h1 (by rw [hd]; exact h _ r1 r2 r3)
variable {w : World} {K : Act → World → Prop}
/-- the same in a drawn region -/
theorem store_step (hw : Region.wanted o (yielded ops a.tmps) = true) (hN : o.dst = none) {t : TypeId} {p v : Operand} (ho : o.op = .store t p v) (g : Nat) (cells old : Array Value) (ty : TypeId) (hp : a.eval p = .pointer (some ⟨g, 0, none⟩)) (hv : a.eval v = .agg cells) (hg : w.heap[g]? = some (.cells old ty (0, 0)))
    (hi : (P.info? t).map (·.size) = some cells.size) (hold : old.size = cells.size) (h1 : cells.all (·.oneCell') = true)
    (h : ∀ w1, w1.heap[g]? = some (.cells cells ty (0, 0)) → (∀ k, k ≠ g → w1.heap[k]? = w.heap[k]?) → (∀ B, B ≤ g → Below B w w1) → K a w1) : if Region.wanted o (yielded ops a.tmps) = true then Oper.wp P o a w K Q else K (a.put none undef) w := by
 obtain ⟨r1, r2, r3⟩ := row_after (cells := cells) hg
 rw [if_pos hw]
 exact wp_store_row t p v ho g cells hp hv ty old hg hi hold h1 (by rw [hN]; exact h _ r1 r2 r3)
end
theorem size25 : (Try.prog.info? 25).map (·.size) = some 3 := by kernel_rfl
section
variable {ops : Array Oper} {Q : Exit → Act → World → Prop} {o : Oper} {rest : List Oper} {a : Act}
/-- a plane is stored into its box -/
theorem storeP_event {W : World} {p v : Operand} (ho : o.op = .store 25 p v) (hgd : o.guard = none) (hd : o.dst = none) (g : Nat) (x y : Int) (A : Option Addr) (n c : Nat) (q r s : Value) (hp : a.eval p = .pointer (some ⟨g, 0, none⟩)) (hv : a.eval v = .agg #[.int .i64 x, .int .i64 y, .slice A n c]) (hg : W.heap[g]? = some (.cells #[q, r, s] 25 (0, 0)))
    (h : ∀ w1, w1.heap[g]? = some (.cells #[.int .i64 x, .int .i64 y, .slice A n c] 25 (0, 0)) → (∀ k, k ≠ g → w1.heap[k]? = W.heap[k]?) → (∀ B, B ≤ g → Below B W w1) → wpList Try.prog ops Q rest a w1) : wpList Try.prog ops Q (o :: rest) a W :=
 store_event hgd hd ho g _ _ 25 hp hv hg size25 rfl (by simp [Value.oneCell']) h
variable {w : World} {K : Act → World → Prop}
theorem storeP_step {p v : Operand} (hw : Region.wanted o (yielded ops a.tmps) = true) (hN : o.dst = none) (ho : o.op = .store 25 p v) (g : Nat) (x y : Int) (A : Option Addr) (n c : Nat) (q r s : Value) (hp : a.eval p = .pointer (some ⟨g, 0, none⟩)) (hv : a.eval v = .agg #[.int .i64 x, .int .i64 y, .slice A n c]) (hg : w.heap[g]? = some (.cells #[q, r, s] 25 (0, 0)))
    (h : ∀ w1, w1.heap[g]? = some (.cells #[.int .i64 x, .int .i64 y, .slice A n c] 25 (0, 0)) → (∀ k, k ≠ g → w1.heap[k]? = w.heap[k]?) → (∀ B, B ≤ g → Below B w w1) → K a w1) : if Region.wanted o (yielded ops a.tmps) = true then Oper.wp Try.prog o a w K Q else K (a.put none undef) w :=
 store_step hw hN ho g _ _ 25 hp hv hg size25 rfl (by simp [Value.oneCell']) h
end
/-- the first i of es turned by f, with ps beside -/
def zipTo (f : Nat → Nat → Nat) (ps es : List Nat) (i : Nat) : List Nat := (List.range es.length).map (fun j => if j < i then f (gt ps j) (gt es j) else gt es j)
@[simp] theorem zipTo_length (f : Nat → Nat → Nat) (ps es : List Nat) (i : Nat) : (zipTo f ps es i).length = es.length := by simp [zipTo]
theorem gt_zipTo {f : Nat → Nat → Nat} {ps es : List Nat} {i j : Nat} (hj : j < es.length) : gt (zipTo f ps es i) j = if j < i then f (gt ps j) (gt es j) else gt es j := by
 rw [gt, List.getD_eq_getElem?_getD, zipTo, List.getElem?_map, List.getElem?_range hj]
 rfl
theorem gt_ext {a b : List Nat} (h : a.length = b.length) (he : ∀ i, i < a.length → gt a i = gt b i) : a = b := by
 apply List.ext_getElem h
 intro i h1 h2
 have := he i h1
 unfold gt at this
 rw [List.getD_eq_getElem?_getD, List.getD_eq_getElem?_getD, List.getElem?_eq_getElem h1, List.getElem?_eq_getElem h2] at this
 exact this
theorem gt_set (l : List Nat) (i v j : Nat) : gt (l.set i v) j = if i = j ∧ i < l.length then v else gt l j := by
 unfold gt
 rw [List.getD_eq_getElem?_getD, List.getD_eq_getElem?_getD, List.getElem?_set]
 by_cases h : i = j
 ·subst h
  by_cases h2 : i < l.length
  ·simp [h2]
  ·simp [h2]
 ·simp [h]
theorem zipTo_zero (f : Nat → Nat → Nat) (ps es : List Nat) : zipTo f ps es 0 = es := gt_ext (zipTo_length ..) (fun i hi => by rw [zipTo_length] at hi; rw [gt_zipTo hi, if_neg (by omega)])
theorem zipTo_succ (f : Nat → Nat → Nat) (ps es : List Nat) {i : Nat} (hi : i < es.length) : zipTo f ps es (i + 1) = (zipTo f ps es i).set i (f (gt ps i) (gt es i)) := by
 refine gt_ext (by rw [List.length_set, zipTo_length, zipTo_length]) (fun j hj => ?_)
 rw [zipTo_length] at hj
 rw [gt_zipTo hj, gt_set]
 by_cases h : i = j
 ·subst h
  have c : i = i ∧ i < (zipTo f ps es i).length := ⟨rfl, by rw [zipTo_length]; exact hi⟩
  rw [if_pos c, if_pos (by omega)]
 ·have c : ¬ (i = j ∧ i < (zipTo f ps es i).length) := fun e => h e.1
  rw [if_neg c, gt_zipTo hj]
  by_cases h2 : j < i
  ·rw [if_pos h2, if_pos (by omega)]
  ·rw [if_neg h2, if_neg (by omega)]
def zipN (f : Nat → Nat → Nat) (ps es : List Nat) : List Nat := zipTo f ps es es.length
theorem gt_zipN {f : Nat → Nat → Nat} {ps es : List Nat} {j : Nat} (hj : j < es.length) : gt (zipN f ps es) j = f (gt ps j) (gt es j) := by
 unfold zipN; rw [gt_zipTo hj, if_pos hj]
@[simp] theorem zipN_length (f : Nat → Nat → Nat) (ps es : List Nat) : (zipN f ps es).length = es.length := zipTo_length ..
/-- what a sample lacks -/
def difA (a b : Nat) : Nat := (key a + 4294967296 - key b) % 4294967296
/-- a sample brought back -/
def addA (d b : Nat) : Nat := fromKey ((key b + d) % 4294967296)
theorem difA_lt (a b : Nat) : difA a b < 4294967296 := Nat.mod_lt _ (by decide)
theorem addA_lt (a b : Nat) : addA a b < 4294967296 := fromKey_lt (Nat.mod_lt _ (by decide))
theorem zipN_lt {f : Nat → Nat → Nat} (hf : ∀ a b, f a b < 4294967296) (ps es : List Nat) : ∀ i, gt (zipN f ps es) i < 4294967296 := by
 intro i
 by_cases h : i < es.length
 ·rw [gt_zipN h]; exact hf _ _
 ·rw [gt_of_ge (by rw [zipN_length]; omega)]; decide
/-- what Split tells beside the halves -/
def finS (W H : Nat) (xs : List Nat) : List Nat := zipN difA xs (expS (hf W) (hf H) W H (redS W H xs))
/-- what Join tells -/
def joiS (W H w h : Nat) (cs fs : List Nat) : List Nat := zipN addA fs (expS W H w h cs)
theorem finS_length (W H : Nat) (xs : List Nat) : (finS W H xs).length = W * H := by unfold finS; rw [zipN_length, expS_length]
theorem joiS_length (W H w h : Nat) (cs fs : List Nat) : (joiS W H w h cs fs).length = w * h := by unfold joiS; rw [zipN_length, expS_length]
theorem fin_ok {W H : Nat} {xs : List Nat} (hp : (Pl.mk W H xs).ok) : (Pl.mk W H (finS W H xs)).ok := by
 obtain ⟨p1, p2, p3, p4, p5, p6, p7⟩ := hp
 exact ⟨p1, p2, p3, p4, p5, finS_length W H xs, zipN_lt difA_lt _ _⟩
theorem joi_ok {W H w h : Nat} {cs fs : List Nat} (hp : (Pl.mk w h fs).ok) : (Pl.mk w h (joiS W H w h cs fs)).ok := by
 obtain ⟨p1, p2, p3, p4, p5, p6, p7⟩ := hp
 exact ⟨p1, p2, p3, p4, p5, joiS_length .., zipN_lt addA_lt _ _⟩
/-- a plane's samples turned in place, one by one -/
def M3 (W2 : World) (gF w h gf nf cf : Nat) (wr : World) (ys : List Nat) : Prop :=
 (nat .u32).R 50 wr W2.heap.size (fun _ => True) (.slice (some ⟨gf, 0, none⟩) nf cf) ys ∧ wr.heap[gF]? = some (.cells #[.int .i64 (w : Int), .int .i64 (h : Int), .slice (some ⟨gf, 0, none⟩) nf cf] 25 (0, 0)) ∧ Below W2.heap.size W2 wr
theorem M3_cell {W2 : World} {gF w h gf nf cf : Nat} {wr : World} {ys : List Nat} (hM : M3 W2 gF w h gf nf cf wr ys) (i : Nat) (hi : i < nf) : wr.cell? ⟨gf, i, none⟩ = some (.int .u32 ((gt ys i : Nat) : Int)) ∧ wr.frozen? ⟨gf, i, none⟩ = false := by
 have h := Kd.R_celln 0 hM.1 (i : Int) (by omega) (by omega)
 rw [Int.toNat_natCast] at h
 refine ⟨h.1.trans ?_, h.2⟩
 unfold gt rdOf
 rw [Int.toNat_natCast]
theorem M3_put {W2 : World} {gF w h gf nf cf : Nat} {wr : World} {ys : List Nat} (hM : M3 W2 gF w h gf nf cf wr ys) (i v : Nat) (hg : W2.heap.size ≤ gf) : M3 W2 gF w h gf nf cf (wr.setCell ⟨gf, i, none⟩ (.int .u32 (v : Int))) (ys.set i v) := by
 have h1 := Kd.R_putn hM.1 (i : Int) v
 rw [Int.toNat_natCast] at h1
 refine ⟨h1, (Below.heap_setCell _ _ _ gF ?_).trans hM.2.1, hM.2.2.setCell (p := ⟨gf, i, none⟩) hg _⟩
 intro e
 exact Kd.R_ne hM.1 hM.2.1 (by decide) (by rw [e]; rfl)
theorem M3_drew {W2 : World} {gF w h gf nf cf : Nat} {wr : World} {ys : List Nat} (hM : M3 W2 gF w h gf nf cf wr ys) : M3 W2 gF w h gf nf cf wr.drew ys := ⟨Kd.R_drew hM.1, blk_drew hM.2.1, below_drew hM.2.2⟩
end Go.Proofs.Ytodlgdpkadkjjaa.A
end
section
set_option linter.unusedVariables false
set_option linter.unusedSimpArgs false
namespace Go.Proofs.Ytodlgdpkadkjjaa.A
open Go.RowKit Go.Shelf Go.Proofs.YtodlgdpkadkjjaaW.PrintWords Go.Proofs.YtodlgdpkadkjjaaW.PrintLast Go.Proofs.YtodlgdpkadkjjaaW.PrintMore Go.Proofs.Ytodlgdpkadkjjaa.PPyramidLevels

set_option maxHeartbeats 8000000 in
set_option maxRecDepth 100000 in
theorem Split_ok (W H : Nat) (xs : List Nat) (A : Option Addr) (n cap : Nat) (w : World) (hp : (Pl.mk W H xs).ok) (hn : xs.length = n) (hC : (nat .u32).C w A n xs) (hcap : n ≤ cap) :
    Calls Try.prog 25 #[.agg #[.int .i64 (W : Int), .int .i64 (H : Int), .slice A n cap]] w fun e w' => ∃ v u B, e = .returned (.tuple #[.agg #[.int .i64 ((hf W : Nat) : Int), .int .i64 ((hf H : Nat) : Int), v], .agg #[.int .i64 (W : Int), .int .i64 (H : Int), u], .int .i64 0]) ∧ w.heap.size ≤ B ∧ (nat .u32).R 50 w' w.heap.size (fun k => k < B) v (redS W H xs) ∧ (nat .u32).R 50 w' B (fun _ => True) u (finS W H xs) ∧ Below w.heap.size w w' := by
 have hu25 := Try.underlying25
 have HP := Aside0.mk hp
 have HQ := Aside0.mk (red_ok hp)
 obtain ⟨p1, p2, p3, p4, p5, p6, p7⟩ := hp
 have p1 : 0 < W := p1
 have p2 : 0 < H := p2
 have p3 : W ≤ 1024 := p3
 have p4 : H ≤ 1024 := p4
 have p5 : W * H ≤ 65536 := p5
 have p6 : xs.length = W * H := p6
 have HXN := Aside0.mk hn
 have HC := Aside0.mk hC
 have HCAP := Aside0.mk hcap
 have HXX := Aside0.mk p7
 have HH1 : Aside0 (1 ≤ W ∧ W ≤ 1024) := ⟨⟨p1, p3⟩⟩
 have HH2 : Aside0 (1 ≤ H ∧ H ≤ 1024) := ⟨⟨p2, p4⟩⟩
 obtain ⟨rs, hrs⟩ : ∃ rs, redS W H xs = rs := ⟨_, rfl⟩
 obtain ⟨es, hes⟩ : ∃ es, expS (hf W) (hf H) W H rs = es := ⟨_, rfl⟩
 have hel : es.length = n := by rw [← hes, expS_length, ← hn, p6]
 have HEL := Aside0.mk hel
 have HEX : Aside0 (∀ i, gt es i < 4294967296) := ⟨by rw [← hes, ← hrs]; exact expS_lt (red_ok HP.out) p3 p4⟩
 have HFS : Aside0 (finS W H xs = zipTo difA xs es n) := ⟨by unfold finS zipN; rw [hrs, hes, hel]⟩
 have HRS := Aside0.mk hrs
 have HES : Aside0 (resZ expandS (hf W) (hf H) W H rs = es) := ⟨hes⟩
 have HNB : Aside0 (0 < n ∧ n ≤ 65536) := ⟨by rw [← hn, p6]; exact ⟨Nat.mul_pos p1 p2, p5⟩⟩
 rw [hrs] at HQ ⊢
 rw [HFS.out]
 clear p1 p2 p3 p4 p5 p6 p7 hn hC hcap hrs hes hel
 go_enter Try.func25, Try.ntmps25
 go_upto_region 4 with (first | ((with_reducible refine gate_dst (N := 1) rfl ?_); refine box_event ?hg (N := 1) ?hd (cs := #[.int .i64 (W : Int), .int .i64 (H : Int), .slice A n cap]) (t := 25) ?hr ?_; (case hd => rfl); (case hg => rfl); (case hr => first | (go_simp; done) | (go_simp; rfl)); intro gP hg_ w1 hm_ hb_; have P1 := Aside0.mk (hm_); have B1 := Aside0.mk (hb_); have GP := Aside0.mk (show w.heap.size ≤ gP by rw [hg_]; exact Nat.le_refl _); clear hm_ hb_ hg_) | ((with_reducible refine gate_dst (N := 2) rfl ?_); refine box_event ?hg (N := 2) ?hd (cs := #[.int .i64 0, .int .i64 0, .slice none 0 0]) (t := 25) ?hr ?_; (case hd => rfl); (case hg => rfl); (case hr => first | (go_simp; done) | (go_simp; rfl)); intro gR hg_ w2 hm_ hb_; have P2 := Aside0.mk (blk_below P1.out hb_); have R2 := Aside0.mk (hm_); have B2 := Aside0.mk (below_step B1.out hb_); have GR := Aside0.mk (show w.heap.size ≤ gR by rw [hg_]; exact below_size B1.out); have NPR := Aside0.mk (show gP ≠ gR by rw [hg_]; have := blk_lt P1.out; omega); clear hm_ hb_ hg_ P1 B1) | ((with_reducible refine gate_dst (N := 3) rfl ?_); refine box_event ?hg (N := 3) ?hd (cs := #[.int .i64 0, .int .i64 0, .slice none 0 0]) (t := 25) ?hr ?_; (case hd => rfl); (case hg => rfl); (case hr => first | (go_simp; done) | (go_simp; rfl)); intro gS hg_ w3 hm_ hb_; have P3 := Aside0.mk (blk_below P2.out hb_); have R3 := Aside0.mk (blk_below R2.out hb_); have S3 := Aside0.mk (hm_); have B3 := Aside0.mk (below_step B2.out hb_); have GS := Aside0.mk (show w.heap.size ≤ gS by rw [hg_]; exact below_size B2.out); have NPS := Aside0.mk (show gP ≠ gS by rw [hg_]; have := blk_lt P2.out; omega); have NRS := Aside0.mk (show gR ≠ gS by rw [hg_]; have := blk_lt R2.out; omega); have p0 := (blk_cell P3.out 0).trans rfl; have p1 := (blk_cell P3.out 1).trans rfl; have p2 := (blk_cell P3.out 2).trans rfl; clear hm_ hb_ hg_ P2 R2 B2) | (go_at_call 16; refine (Reduce_ok W H xs A n cap _ HP.out HXN.out (Kd.C_below HC.out B3.out) HCAP.out).mono ?_; rintro e w4 ⟨v4, rfl, hR, hb⟩; have P4 := Aside0.mk (blk_below P3.out hb); have R4 := Aside0.mk (blk_below R3.out hb); have S4 := Aside0.mk (blk_below S3.out hb); have B4 := Aside0.mk (below_step B3.out hb); rw [HRS.out] at hR; obtain ⟨A4, c4, hv4, hc4, hC4⟩ := Kd.R_reads hR; obtain ⟨n4, hn4⟩ : ∃ n4, rs.length = n4 := ⟨_, rfl⟩; rw [hn4] at hv4 hc4 hC4; subst hv4; have HN4 := Aside0.mk (hn4); have HC4 := Aside0.mk (hc4); have VV4 := Aside0.mk (Kd.R_lower hR B3.out.size); clear hR hn4 hc4 hC4; clear hb p0 p1 p2) | ((with_reducible refine gate_dst (N := 5) rfl ?_); refine box_event ?hg (N := 5) ?hd (cs := #[.int .i64 0, .int .i64 0, .slice none 0 0]) (t := 25) ?hr ?_; (case hd => rfl); (case hg => rfl); (case hr => first | (go_simp; done) | (go_simp; rfl)); intro gC hg_ w5 hm_ hb_; have NPC := Aside0.mk (show gP ≠ gC by rw [hg_]; have := blk_lt P4.out; omega); have NRC := Aside0.mk (show gR ≠ gC by rw [hg_]; have := blk_lt R4.out; omega); have NSC := Aside0.mk (show gS ≠ gC by rw [hg_]; have := blk_lt S4.out; omega); have GC := Aside0.mk (show w.heap.size ≤ gC by rw [hg_]; exact below_size B4.out); have P5 := Aside0.mk (blk_below P4.out hb_); have R5 := Aside0.mk (blk_below R4.out hb_); have S5 := Aside0.mk (blk_below S4.out hb_); have C5 := Aside0.mk (hm_); have B5 := Aside0.mk (below_step B4.out hb_); have VV5 := Aside0.mk (Kd.R_below VV4.out hb_); clear hm_ hb_ hg_ P4 R4 S4 B4 VV4) | ((with_reducible refine gate_store (p := 5) rfl ?_); refine storeP_event rfl rfl rfl gC ((hf W : Nat) : Int) ((hf H : Nat) : Int) A4 n4 c4 _ _ _ rfl rfl C5.out ?_; intro w6 hm_ hst_ hbl_; have P6 := Aside0.mk ((hst_ gP NPC.out).trans P5.out); have R6 := Aside0.mk ((hst_ gR NRC.out).trans R5.out); have S6 := Aside0.mk ((hst_ gS NSC.out).trans S5.out); have C6 := Aside0.mk (hm_); have B6 := Aside0.mk (B5.out.trans (hbl_ _ GC.out)); have VV6 := Aside0.mk (Kd.R_mono (Kd.R_move (Kd.R_types VV5.out C5.out (by decide)) (fun k hk => hst_ k hk.2)) (fun _ _ => trivial)); have hW2 := trivial; clear hm_ hst_ hbl_))
 have CV6 : Aside0 ((nat .u32).C w6 A4 n4 rs) := ⟨by have h := (Kd.R_reads' VV6.out).2.2; rw [HN4.out] at h; exact h⟩
 have p0 := (blk_cell P6.out 0).trans rfl
 have p1 := (blk_cell P6.out 1).trans rfl
 have q0 := (blk_cell C6.out 0).trans rfl
 have q1 := (blk_cell C6.out 1).trans rfl
 have q2 := (blk_cell C6.out 2).trans rfl
 clear P5 R5 S5 C5 VV5 B5 P3 R3 S3 B3
 go_wp2_with (first | (go_at_call 52; refine (resized_n 57 Try.f57 expandS expand_shape expand_good Try.func57 rfl rfl (hf W) (hf H) W H n4 c4 A4 rs _ HQ.out HH1.out HH2.out HN4.out CV6.out HC4.out).mono ?_; rw [HES.out]; rintro e w7 ⟨v7, rfl, hR, hb⟩; have F7 := Aside0.mk (hR); have B7 := Aside0.mk (hb); obtain ⟨gf, cf, hv7, hgf, hlt, hty⟩ := Kd.R_form hR (show 0 < es.length by rw [HEL.out]; exact HNB.out.1); rw [HEL.out] at hv7; subst hv7; have GF := Aside0.mk (hgf); clear hR hb hgf hlt hty p0 p1 q0 q1 q2) | ((with_reducible refine gate_dst (N := 7) rfl ?_); refine box_event ?hg (N := 7) ?hd (cs := #[.int .i64 0, .int .i64 0, .slice none 0 0]) (t := 25) ?hr ?_; (case hd => rfl); (case hg => rfl); (case hr => first | (go_simp; done) | (go_simp; rfl)); intro gF hg_ w8 hm_ hb_; have F8 := Aside0.mk (Kd.R_below F7.out hb_); have D8 := Aside0.mk (hm_); have B8 := Aside0.mk (below_step B7.out hb_); have GFF := Aside0.mk (show w6.heap.size ≤ gF by rw [hg_]; exact below_size B7.out); clear hm_ hb_ hg_ F7 B7) | ((with_reducible refine gate_store (p := 7) rfl ?_); refine storeP_event rfl rfl rfl gF (W : Int) (H : Int) (some ⟨gf, 0, none⟩) n cf _ _ _ rfl rfl D8.out ?_; intro w9 hm_ hst_ hbl_; have M9 := Aside0.mk (show M3 w6 gF W H gf n cf w9 es from ⟨Kd.R_mono (Kd.R_move (Kd.R_types F8.out D8.out (by decide)) (fun k hk => hst_ k hk.2)) (fun _ _ => trivial), hm_, B8.out.trans (hbl_ _ GFF.out)⟩); have d2 := (blk_cell M9.out.2.1 2).trans rfl; clear F8 D8 B8; clear hm_ hst_ hbl_))
 clear d2
 obtain ⟨ys0, hys0⟩ : ∃ ys0, es = ys0 := ⟨_, rfl⟩
 have HY0 : Aside0 (ys0 = zipTo difA xs es 0) := ⟨by rw [zipTo_zero]; exact hys0.symm⟩
 have M0 : Aside0 (M3 w6 gF W H gf n cf w9 ys0) := ⟨by rw [← hys0]; exact M9.out⟩
 clear hys0 M9
 go_loopw [29] (fun iv wr => ∃ (i : Nat) (ys : List Nat), i ≤ n ∧ iv = .int .i64 (i : Int) ∧ Aside0 (ys = zipTo difA xs es i) ∧ Aside0 (M3 w6 gF W H gf n cf wr ys)) (fun iv _ => n - (intOf iv).toNat)
 case atStart => exact ⟨0, ys0, Nat.zero_le _, rfl, HY0, M0⟩
 case round =>
  clear M0 HY0
  obtain ⟨i, ys, hi, rfl, HY, HM⟩ := hrel
  by_cases hlt : i < n
  ·have c1 : decide ((i : Int) < (n : Int)) = true := decide_eq_true (by omega)
   have i1 : ((i : Int) < (n : Int)) = True := eq_true (by omega)
   have hb1 := HNB.out.2
   have hiel : i < es.length := by rw [HEL.out]; exact hlt
   obtain ⟨b, hb⟩ : ∃ b, gt es i = b := ⟨_, rfl⟩
   obtain ⟨a, ha⟩ : ∃ a, gt xs i = a := ⟨_, rfl⟩
   have hyb : gt ys i = b := by rw [HY.out, gt_zipTo hiel, if_neg (by omega), hb]
   have HA : Aside0 (a < 4294967296) := ⟨by rw [← ha]; exact HXX.out i⟩
   have HB : Aside0 (b < 4294967296) := ⟨by rw [← hb]; exact HEX.out i⟩
   have z1 := (M3_cell HM.out i hlt).1
   have hfz := (M3_cell HM.out i hlt).2
   rw [hyb] at z1
   have z2 := (blk_cell HM.out.2.1 2).trans rfl
   obtain ⟨ad, hA, hx⟩ := C_nat (Kd.C_below HC.out ((below_step B6.out HM.out.2.2))) i hlt
   subst hA
   rw [ha] at hx
   obtain ⟨ka, hka⟩ : ∃ k, key a = k := ⟨_, rfl⟩
   obtain ⟨kb, hkb⟩ : ∃ k, key b = k := ⟨_, rfl⟩
   have HKA := Aside0.mk hka
   have HKB := Aside0.mk hkb
   obtain ⟨d, hd⟩ : ∃ d, difA a b = d := ⟨_, rfl⟩
   have e1 : IntKind.u32.wrap ((ka : Int) - (kb : Int)) = (d : Int) := by
    rw [← hd, ← hka, ← hkb]; unfold difA; simp only [IntKind.wrap_u32]; have := key_lt HA.out; have := key_lt HB.out; omega
   have HYS : Aside0 (ys.set i d = zipTo difA xs es (i + 1)) := ⟨by rw [zipTo_succ _ _ _ hiel, ha, hb, hd, HY.out]⟩
   have HLT := Aside0.mk hlt
   clear hb ha hyb hka hkb hd hiel hfz
   go_upto_region 8 with (fail)
   have MM := Aside0.mk (M3_drew HM.out)
   have PP := Aside0.mk (blk_below P6.out MM.out.2.2)
   have XX : Aside0 (wr.drew.cell? (ad.add i) = some (.int .u32 (a : Int))) := ⟨hx⟩
   clear hx z1 z2 HM
   have z1 := (M3_cell MM.out i HLT.out).1
   have zf := (M3_cell MM.out i HLT.out).2
   refine start_ (n := 14) (S := fun w' => w'.cell? ⟨gF, 2, none⟩ = some (.slice (some ⟨gf, 0, none⟩) n cf) ∧ w'.cell? ⟨gP, 2, none⟩ = some (.slice (some ad) n cap) ∧ w'.cell? (ad.add i) = some (.int .u32 (a : Int))) (ds := [13]) #[ff_,ff_,ff_,ff_,ff_,ff_,ff_,ff_,ff_,ff_,ff_,ff_,ff_,ff_] (by kernel_rfl) rfl rfl ⟨(blk_cell MM.out.2.1 2).trans rfl, (blk_cell PP.out 2).trans rfl, XX.out⟩ (fun hHeld => ?_)
   generalize wr.drew = wd at *
   refine pure_ (i := 0) (N := some 34) (v := ?_) (a' := ?_) #[tt_,ff_,ff_,ff_,ff_,ff_,ff_,ff_,ff_,ff_,ff_,ff_,ff_,ff_] rfl rfl (by kernel_rfl) (fun _ _ _ h => h) (Or.inl ⟨by rfl, ?_⟩) ?_ ?_
   rotate_left
   ·intro w'
    go_simp
    with_reducible rfl
   rotate_left
   ·simp only [Act.put, List.setIfInBounds_toArray, List.set_cons_zero, List.set_cons_succ, i64_w, i32_w]
    rfl
   refine pure_ (i := 2) (N := some 36) (v := ?_) (a' := ?_) #[tt_,ff_,tt_,ff_,ff_,ff_,ff_,ff_,ff_,ff_,ff_,ff_,ff_,ff_] rfl rfl (by kernel_rfl) (fun _ _ _ h => h) (Or.inl ⟨by rfl, ?_⟩) ?_ ?_
   rotate_left
   ·intro w'
    go_simp
    with_reducible rfl
   rotate_left
   ·simp only [Act.put, List.setIfInBounds_toArray, List.set_cons_zero, List.set_cons_succ, i64_w, i32_w]
    rfl
   refine pure_ (i := 3) (N := some 37) (v := ?_) (a' := ?_) #[tt_,ff_,tt_,tt_,ff_,ff_,ff_,ff_,ff_,ff_,ff_,ff_,ff_,ff_] rfl rfl (by kernel_rfl) (fun _ _ _ h => h) (Or.inl ⟨by rfl, ?_⟩) ?_ ?_
   rotate_left
   ·intro w'
    go_simp
    with_reducible rfl
   rotate_left
   ·simp only [Act.put, List.setIfInBounds_toArray, List.set_cons_zero, List.set_cons_succ, i64_w, i32_w]
    rfl
   refine pure_ (i := 5) (N := some 39) (v := ?_) (a' := ?_) #[tt_,ff_,tt_,tt_,ff_,tt_,ff_,ff_,ff_,ff_,ff_,ff_,ff_,ff_] rfl rfl (by kernel_rfl) (fun _ _ _ h => h) (Or.inl ⟨by rfl, ?_⟩) ?_ ?_
   rotate_left
   ·intro w'
    go_simp
    with_reducible rfl
   rotate_left
   ·simp only [Act.put, List.setIfInBounds_toArray, List.set_cons_zero, List.set_cons_succ, i64_w, i32_w]
    rfl
   refine pure_ (i := 9) (N := some 43) (v := ?_) (a' := ?_) #[tt_,ff_,tt_,tt_,ff_,tt_,ff_,ff_,ff_,tt_,ff_,ff_,ff_,ff_] rfl rfl (by kernel_rfl) (fun _ _ _ h => h) (Or.inl ⟨by rfl, ?_⟩) ?_ ?_
   rotate_left
   ·intro w'
    go_simp
    with_reducible rfl
   rotate_left
   ·simp only [Act.put, List.setIfInBounds_toArray, List.set_cons_zero, List.set_cons_succ, i64_w, i32_w]
    rfl
   refine take_ (i := 1) (N := some 35) (v := ?_) (a' := ?_) #[tt_,tt_,tt_,tt_,ff_,tt_,ff_,ff_,ff_,tt_,ff_,ff_,ff_,ff_] rfl rfl (by kernel_rfl) (fun _ _ _ h => h) (Or.inl ⟨by rfl, ?_⟩) hHeld ?_ ?_
   rotate_left
   ·rintro w' ⟨s0, s1, s2⟩
    go_simp
    with_reducible rfl
   rotate_left
   ·simp only [Act.put, List.setIfInBounds_toArray, List.set_cons_zero, List.set_cons_succ, i64_w, i32_w]
    rfl
   refine take_ (i := 4) (N := some 38) (v := ?_) (a' := ?_) #[tt_,tt_,tt_,tt_,tt_,tt_,ff_,ff_,ff_,tt_,ff_,ff_,ff_,ff_] rfl rfl (by kernel_rfl) (fun _ _ _ h => h) (Or.inl ⟨by rfl, ?_⟩) hHeld ?_ ?_
   rotate_left
   ·rintro w' ⟨s0, s1, s2⟩
    go_simp
    with_reducible rfl
   rotate_left
   ·simp only [Act.put, List.setIfInBounds_toArray, List.set_cons_zero, List.set_cons_succ, i64_w, i32_w]
    rfl
   refine pure_ (i := 6) (N := some 40) (v := ?_) (a' := ?_) #[tt_,tt_,tt_,tt_,tt_,tt_,tt_,ff_,ff_,tt_,ff_,ff_,ff_,ff_] rfl rfl (by kernel_rfl) (fun _ _ _ h => h) (Or.inl ⟨by rfl, ?_⟩) ?_ ?_
   rotate_left
   ·intro w'
    go_simp
    with_reducible rfl
   rotate_left
   ·simp only [Act.put, List.setIfInBounds_toArray, List.set_cons_zero, List.set_cons_succ, i64_w, i32_w]
    rfl
   refine take_ (i := 7) (N := some 41) (v := ?_) (a' := ?_) #[tt_,tt_,tt_,tt_,tt_,tt_,tt_,tt_,ff_,tt_,ff_,ff_,ff_,ff_] rfl rfl (by kernel_rfl) (fun _ _ _ h => h) (Or.inl ⟨by rfl, ?_⟩) hHeld ?_ ?_
   rotate_left
   ·rintro w' ⟨s0, s1, s2⟩
    go_simp
    with_reducible rfl
   rotate_left
   ·simp only [Act.put, List.setIfInBounds_toArray, List.set_cons_zero, List.set_cons_succ, i64_w, i32_w]
    rfl
   refine one_ (i := 8) (N := some 42) #[tt_,tt_,tt_,tt_,tt_,tt_,tt_,tt_,tt_,tt_,ff_,ff_,ff_,ff_] rfl rfl (by kernel_rfl) (by decide) (fun K hK => ?_)
   refine goes_ Try.func62 (by kernel_rfl) rfl #[.int .u32 (a : Int)] (by rfl) rfl rfl (by (try simp only [List.map_toArray, List.map_cons, List.map_nil]); rfl) ?_
   with_reducible refine (Key_calls a _ HA.out).mono ?_
   rw [HKA.out]
   rintro e _ ⟨rfl, rfl⟩
   refine ⟨_, rfl, ?_⟩
   refine hK.out _ _ ⟨(blk_cell MM.out.2.1 2).trans rfl, (blk_cell PP.out 2).trans rfl, XX.out⟩ (fun hHeld => ?_)
   clear hK K
   refine norm_ (a' := ?_) ?_ ?_
   rotate_left
   ·show Act.put _ (some 42) _ = _
    simp only [Act.put, List.setIfInBounds_toArray, List.set_cons_zero, List.set_cons_succ, i64_w, i32_w]
    rfl
   refine one_ (i := 10) (N := some 44) #[tt_,tt_,tt_,tt_,tt_,tt_,tt_,tt_,tt_,tt_,tt_,ff_,ff_,ff_] rfl rfl (by kernel_rfl) (by decide) (fun K hK => ?_)
   refine goes_ Try.func62 (by kernel_rfl) rfl #[.int .u32 (b : Int)] (by rfl) rfl rfl (by (try simp only [List.map_toArray, List.map_cons, List.map_nil]); rfl) ?_
   with_reducible refine (Key_calls b _ HB.out).mono ?_
   rw [HKB.out]
   rintro e _ ⟨rfl, rfl⟩
   refine ⟨_, rfl, ?_⟩
   refine hK.out _ _ ⟨(blk_cell MM.out.2.1 2).trans rfl, (blk_cell PP.out 2).trans rfl, XX.out⟩ (fun hHeld => ?_)
   clear hK K
   refine norm_ (a' := ?_) ?_ ?_
   rotate_left
   ·show Act.put _ (some 44) _ = _
    simp only [Act.put, List.setIfInBounds_toArray, List.set_cons_zero, List.set_cons_succ, i64_w, i32_w]
    rfl
   refine pure_ (i := 11) (N := some 45) (v := ?_) (a' := ?_) #[tt_,tt_,tt_,tt_,tt_,tt_,tt_,tt_,tt_,tt_,tt_,tt_,ff_,ff_] rfl rfl (by kernel_rfl) (fun _ _ _ h => h) (Or.inl ⟨by rfl, ?_⟩) ?_ ?_
   rotate_left
   ·intro w'
    go_simp
    with_reducible rfl
   rotate_left
   ·simp only [Act.put, List.setIfInBounds_toArray, List.set_cons_zero, List.set_cons_succ, i64_w, i32_w]
    rfl
   refine pure_ (i := 12) (N := some 46) (v := ?_) (a' := ?_) #[tt_,tt_,tt_,tt_,tt_,tt_,tt_,tt_,tt_,tt_,tt_,tt_,tt_,ff_] rfl rfl (by kernel_rfl) (fun _ _ _ h => h) (Or.inl ⟨by rfl, ?_⟩) ?_ ?_
   rotate_left
   ·intro w'
    go_simp
    with_reducible rfl
   rotate_left
   ·simp only [Act.put, List.setIfInBounds_toArray, List.set_cons_zero, List.set_cons_succ, i64_w, i32_w]
    rfl
   refine last_ (i := 13) (N := none) #[tt_,tt_,tt_,tt_,tt_,tt_,tt_,tt_,tt_,tt_,tt_,tt_,tt_,tt_] rfl rfl (by kernel_rfl) (by decide) (fun K hK => ?_)
   refine skip_ (w1 := ?_) (by rfl) rfl ?_ ?_
   rotate_left
   ·go_simp
    rfl
   refine hK.out _ _ ?_
   clear hK K
   refine done_ (by kernel_rfl) ?_
   have MN := Aside0.mk (M3_put MM.out i d GF.out)
   generalize wd.setCell ⟨gf, i, none⟩ (.int .u32 (d : Int)) = wn at *
   clear z1 zf PP XX MM
   go_wp2
   go_roundw
   case measure => simp [intOf]; omega
   case rel => exact ⟨i + 1, ys.set i d, by omega, by go_num, HYS, MN⟩
  ·obtain rfl : n = i := by omega
   have c1 : decide ((n : Int) < (n : Int)) = false := decide_eq_false (by omega)
   go_upto_region 10 with (fail)
   have MM := Aside0.mk (M3_drew HM.out)
   have hbw := MM.out.2.2
   have FF := Aside0.mk MM.out.2.1
   have UU : Aside0 ((nat .u32).R 50 wr.drew w6.heap.size (fun _ => True) (.slice (some ⟨gf, 0, none⟩) n cf) ys) := ⟨MM.out.1⟩
   have VV := Aside0.mk (Kd.R_mono (Kd.R_below (Kd.R_bound VV6.out) hbw) (ok' := fun k => k < w6.heap.size) (fun k hk => hk.2.2.1))
   have RR := Aside0.mk (blk_below R6.out hbw)
   have SS := Aside0.mk (blk_below S6.out hbw)
   have CC := Aside0.mk (blk_below C6.out hbw)
   have BB := Aside0.mk (below_step B6.out hbw)
   have NRF : Aside0 (gR ≠ gF) := ⟨by have := blk_lt R6.out; have := GFF.out; omega⟩
   clear hbw MM HM
   refine start_ (n := 5) (S := fun w' => w'.cell? ⟨gC, 0, none⟩ = some (.int .i64 ((hf W : Nat) : Int)) ∧ w'.cell? ⟨gC, 1, none⟩ = some (.int .i64 ((hf H : Nat) : Int)) ∧ w'.cell? ⟨gC, 2, none⟩ = some (.slice A4 n4 c4) ∧ w'.cell? ⟨gF, 0, none⟩ = some (.int .i64 (W : Int)) ∧ w'.cell? ⟨gF, 1, none⟩ = some (.int .i64 (H : Int)) ∧ w'.cell? ⟨gF, 2, none⟩ = some (.slice (some ⟨gf, 0, none⟩) n cf)) (ds := [3]) #[false, false, false, false, false] (by kernel_rfl) rfl rfl ⟨(blk_cell CC.out 0).trans rfl, (blk_cell CC.out 1).trans rfl, (blk_cell CC.out 2).trans rfl, (blk_cell FF.out 0).trans rfl, (blk_cell FF.out 1).trans rfl, (blk_cell FF.out 2).trans rfl⟩ (fun hHeld => ?_)
   generalize wr.drew = wd at *
   refine take_ (i := 0) (N := some 48) (v := ?_) (a' := ?_) #[true, false, false, false, false] rfl rfl (by kernel_rfl) (fun _ _ _ h => h) (Or.inl ⟨by rfl, ?_⟩) hHeld ?_ ?_
   rotate_left
   ·rintro w' ⟨s0, s1, s2, s3, s4, s5⟩
    go_simp
    with_reducible rfl
   rotate_left
   ·simp only [Act.put, List.setIfInBounds_toArray, List.set_cons_zero, List.set_cons_succ, i64_w, i32_w]
    rfl
   refine take_ (i := 1) (N := some 49) (v := ?_) (a' := ?_) #[true, true, false, false, false] rfl rfl (by kernel_rfl) (fun _ _ _ h => h) (Or.inl ⟨by rfl, ?_⟩) hHeld ?_ ?_
   rotate_left
   ·rintro w' ⟨s0, s1, s2, s3, s4, s5⟩
    go_simp
    with_reducible rfl
   rotate_left
   ·simp only [Act.put, List.setIfInBounds_toArray, List.set_cons_zero, List.set_cons_succ, i64_w, i32_w]
    rfl
   refine one_ (i := 2) (N := none) #[true, true, true, false, false] rfl rfl (by kernel_rfl) (by decide) (fun K hK => ?_)
   refine storeP_step (by rfl) rfl rfl gR ((hf W : Nat) : Int) ((hf H : Nat) : Int) A4 n4 c4 _ _ _ rfl rfl RR.out ?_
   intro w12 hm_ hst_ hbl_
   have R12 := Aside0.mk (hm_)
   have C12 := Aside0.mk ((hst_ gC NRC.out.symm).trans CC.out)
   have S12 := Aside0.mk ((hst_ gS NRS.out.symm).trans SS.out)
   have F12 := Aside0.mk ((hst_ gF NRF.out.symm).trans FF.out)
   have B12 := Aside0.mk (BB.out.trans (hbl_ _ GR.out))
   have V12 := Aside0.mk (Kd.R_mono (Kd.R_move (Kd.R_types VV.out RR.out (by decide)) (fun k hk => hst_ k hk.2)) (fun k hk => hk.1))
   have U12 := Aside0.mk (Kd.R_mono (Kd.R_move (Kd.R_types UU.out RR.out (by decide)) (fun k hk => hst_ k hk.2)) (fun _ _ => trivial))
   clear hm_ hst_ hbl_
   refine hK.out _ _ ⟨(blk_cell C12.out 0).trans rfl, (blk_cell C12.out 1).trans rfl, (blk_cell C12.out 2).trans rfl, (blk_cell F12.out 0).trans rfl, (blk_cell F12.out 1).trans rfl, (blk_cell F12.out 2).trans rfl⟩ (fun hHeld => ?_)
   clear hK K
   refine last_ (i := 3) (N := none) #[true, true, true, true, false] rfl rfl (by kernel_rfl) (by decide) (fun K hK => ?_)
   refine storeP_step (by rfl) rfl rfl gS (W : Int) (H : Int) (some ⟨gf, 0, none⟩) n cf _ _ _ rfl rfl S12.out ?_
   intro w13 hm_ hst_ hbl_
   have S13 := Aside0.mk (hm_)
   have R13 := Aside0.mk ((hst_ gR NRS.out).trans R12.out)
   have B13 := Aside0.mk (B12.out.trans (hbl_ _ GS.out))
   have V13 := Aside0.mk (Kd.R_mono (Kd.R_move (Kd.R_types V12.out S12.out (by decide)) (fun k hk => hst_ k hk.2)) (fun k hk => hk.1))
   have U13 := Aside0.mk (Kd.R_mono (Kd.R_move (Kd.R_types U12.out S12.out (by decide)) (fun k hk => hst_ k hk.2)) (fun _ _ => trivial))
   clear hm_ hst_ hbl_
   refine hK.out _ _ ?_
   clear hK K
   refine pure_ (i := 4) (N := some 4) (v := ?_) (a' := ?_) #[true, true, true, true, true] rfl rfl (by kernel_rfl) (fun _ _ _ h => h) (Or.inl ⟨by rfl, ?_⟩) ?_ ?_
   rotate_left
   ·intro w'
    go_simp
    with_reducible rfl
   rotate_left
   ·simp only [Act.put, List.setIfInBounds_toArray, List.set_cons_zero, List.set_cons_succ, i64_w, i32_w]
    rfl
   refine done_ (by kernel_rfl) ?_
   try go_wp2
   refine bodyPost_ret (results_cct rfl _ _ gR gS 25 25 #[.int .i64 ((hf W : Nat) : Int), .int .i64 ((hf H : Nat) : Int), .slice A4 n4 c4] #[.int .i64 (W : Int), .int .i64 (H : Int), .slice (some ⟨gf, 0, none⟩) n cf] (0, 0) (0, 0) _ _ rfl R13.out Try.underlying25 rfl (by kernel_rfl) rfl S13.out Try.underlying25 rfl (by kernel_rfl)) rfl ?_
   exact ⟨_, _, w6.heap.size, rfl, B6.out.size, V13.out, by rw [← HY.out]; exact U13.out, B13.out⟩
end Go.Proofs.Ytodlgdpkadkjjaa.A
end
section
set_option linter.unusedVariables false
set_option linter.unusedSimpArgs false
namespace Go.Proofs.Ytodlgdpkadkjjaa.A
open Go.RowKit Go.Shelf Go.Proofs.YtodlgdpkadkjjaaW.PrintWords Go.Proofs.YtodlgdpkadkjjaaW.PrintLast Go.Proofs.YtodlgdpkadkjjaaW.PrintMore Go.Proofs.Ytodlgdpkadkjjaa.PPyramidLevels

set_option maxHeartbeats 2000000 in
set_option maxRecDepth 100000 in
theorem Join_bad1 (x y : Int) (A : Option Addr) (n cap : Nat) (u v : Int) (D : Option Addr) (m dcap : Nat) (w : World) (hn : n < 9223372036854775808) (hE : checkE x y n ≠ 0) :
    Calls Try.prog 33 #[.agg #[.int .i64 x, .int .i64 y, .slice A n cap], .agg #[.int .i64 u, .int .i64 v, .slice D m dcap]] w fun e w' => e = .returned (.tuple #[.agg #[.int .i64 0, .int .i64 0, .slice none 0 0], .int .i64 ((checkE x y n : Nat) : Int)]) ∧ Below w.heap.size w w' := by
 have hu25 := Try.underlying25
 obtain ⟨c, hc⟩ : ∃ c, checkE x y n = c := ⟨_, rfl⟩
 have HE1 := Aside0.mk hc
 have HN1 := Aside0.mk hn
 rw [hc] at hE ⊢
 have t1 : ((c : Int) != 0) = true := by rw [bne_iff_ne]; omega
 clear hc hn hE
 go_enter Try.func33, Try.ntmps33
 go_wp2_with (first | ((with_reducible refine gate_dst (N := 2) rfl ?_); refine box_event ?hg (N := 2) ?hd (cs := #[.int .i64 x, .int .i64 y, .slice A n cap]) (t := 25) ?hr ?_; (case hd => rfl); (case hg => rfl); (case hr => first | (go_simp; done) | (go_simp; rfl)); intro gP hg_ w1 hm_ hb_; have P1 := Aside0.mk (hm_); have B1 := Aside0.mk (hb_); have GP := Aside0.mk (show w.heap.size ≤ gP by rw [hg_]; exact Nat.le_refl _); clear hm_ hb_ hg_) | ((with_reducible refine gate_dst (N := 3) rfl ?_); refine box_event ?hg (N := 3) ?hd (cs := #[.int .i64 u, .int .i64 v, .slice D m dcap]) (t := 25) ?hr ?_; (case hd => rfl); (case hg => rfl); (case hr => first | (go_simp; done) | (go_simp; rfl)); intro gQ hg_ w2 hm_ hb_; have P2 := Aside0.mk (blk_below P1.out hb_); have Q2 := Aside0.mk (hm_); have B2 := Aside0.mk (below_step B1.out hb_); have NPQ := Aside0.mk (show gP ≠ gQ by rw [hg_]; have := blk_lt P1.out; omega); clear hm_ hb_ hg_ P1 B1) | ((with_reducible refine gate_dst (N := 4) rfl ?_); refine box_event ?hg (N := 4) ?hd (cs := #[.int .i64 0, .int .i64 0, .slice none 0 0]) (t := 25) ?hr ?_; (case hd => rfl); (case hg => rfl); (case hr => first | (go_simp; done) | (go_simp; rfl)); intro gR hg_ w3 hm_ hb_; have P3 := Aside0.mk (blk_below P2.out hb_); have Q3 := Aside0.mk (blk_below Q2.out hb_); have R3 := Aside0.mk (hm_); have B3 := Aside0.mk (below_step B2.out hb_); have GR := Aside0.mk (show w.heap.size ≤ gR by rw [hg_]; exact below_size B2.out); have NPR := Aside0.mk (show gP ≠ gR by rw [hg_]; have := blk_lt P2.out; omega); have NQR := Aside0.mk (show gQ ≠ gR by rw [hg_]; have := blk_lt Q2.out; omega); have p0 := (blk_cell P3.out 0).trans rfl; have p1 := (blk_cell P3.out 1).trans rfl; have p2 := (blk_cell P3.out 2).trans rfl; clear hm_ hb_ hg_ P2 Q2 B2) | (go_at_call 51; have hkey := P3; refine (Check_calls x y A n cap _ HN1.out).mono ?_; rw [HE1.out]; rintro e w4 ⟨rfl, hb⟩; have P4 := Aside0.mk (blk_below P3.out hb); have Q4 := Aside0.mk (blk_below Q3.out hb); have R4 := Aside0.mk (blk_below R3.out hb); have B4 := Aside0.mk (below_step B3.out hb); clear hkey P3 Q3 R3 B3 hb p0 p1 p2; have p0 := (blk_cell Q4.out 0).trans rfl; have p1 := (blk_cell Q4.out 1).trans rfl; have p2 := (blk_cell Q4.out 2).trans rfl) | ((with_reducible refine gate_store (p := 4) rfl ?_); refine storeP_event rfl rfl rfl gR 0 0 none 0 0 _ _ _ rfl rfl R4.out ?_; intro wz hm_ hst_ hbl_; have Rz := Aside0.mk (hm_); have Bz := Aside0.mk (B4.out.trans (hbl_ _ GR.out)); clear hm_ hst_ hbl_))
 refine bodyPost_ret (results_ct rfl _ _ gR 25 #[.int .i64 0, .int .i64 0, .slice none 0 0] (0, 0) _ rfl Rz.out Try.underlying25 rfl (by kernel_rfl)) rfl ?_
 exact ⟨rfl, Bz.out⟩
set_option maxHeartbeats 4000000 in
set_option maxRecDepth 100000 in
theorem Join_wide (W H : Nat) (A : Option Addr) (n cap : Nat) (w_ h_ : Nat) (D : Option Addr) (m dcap : Nat)  (w : World) (hE1 : checkE (W : Int) (H : Int) n = 0) (hE2 : checkE (w_ : Int) (h_ : Int) m = 0) (hW : hf w_ ≠ W) :
    Calls Try.prog 33 #[.agg #[.int .i64 (W : Int), .int .i64 (H : Int), .slice A n cap], .agg #[.int .i64 (w_ : Int), .int .i64 (h_ : Int), .slice D m dcap]] w fun e w' => e = .returned (.tuple #[.agg #[.int .i64 0, .int .i64 0, .slice none 0 0], .int .i64 141]) ∧ Below w.heap.size w w' := by
 have hu25 := Try.underlying25
 have HE1 := Aside0.mk hE1
 have HE2 := Aside0.mk hE2
 have HN1 : Aside0 (n < 9223372036854775808) := ⟨by obtain ⟨_, _, _, _, _, _, _, _, h, hn⟩ := checkE_zero hE1; omega⟩
 have HN2 : Aside0 (m < 9223372036854775808) := ⟨by obtain ⟨_, _, _, _, _, _, _, _, h, hn⟩ := checkE_zero hE2; omega⟩
 have HWN : Aside0 (w_ < 1000000) := ⟨by obtain ⟨_, _, _, _, _, _, _, _, h, hn⟩ := checkE_zero hE2; omega⟩
 have HHN : Aside0 (h_ < 1000000) := ⟨by obtain ⟨_, _, _, _, _, _, _, _, h, hn⟩ := checkE_zero hE2; omega⟩
 have t1 : (((hf w_ : Nat) : Int) != (W : Int)) = true := by rw [bne_iff_ne]; omega
 clear hE1 hE2 hW
 go_enter Try.func33, Try.ntmps33
 go_upto_region 7 with (first | ((with_reducible refine gate_dst (N := 2) rfl ?_); refine box_event ?hg (N := 2) ?hd (cs := #[.int .i64 (W : Int), .int .i64 (H : Int), .slice A n cap]) (t := 25) ?hr ?_; (case hd => rfl); (case hg => rfl); (case hr => first | (go_simp; done) | (go_simp; rfl)); intro gP hg_ w1 hm_ hb_; have P1 := Aside0.mk (hm_); have B1 := Aside0.mk (hb_); have GP := Aside0.mk (show w.heap.size ≤ gP by rw [hg_]; exact Nat.le_refl _); clear hm_ hb_ hg_) | ((with_reducible refine gate_dst (N := 3) rfl ?_); refine box_event ?hg (N := 3) ?hd (cs := #[.int .i64 (w_ : Int), .int .i64 (h_ : Int), .slice D m dcap]) (t := 25) ?hr ?_; (case hd => rfl); (case hg => rfl); (case hr => first | (go_simp; done) | (go_simp; rfl)); intro gQ hg_ w2 hm_ hb_; have P2 := Aside0.mk (blk_below P1.out hb_); have Q2 := Aside0.mk (hm_); have B2 := Aside0.mk (below_step B1.out hb_); have NPQ := Aside0.mk (show gP ≠ gQ by rw [hg_]; have := blk_lt P1.out; omega); clear hm_ hb_ hg_ P1 B1) | ((with_reducible refine gate_dst (N := 4) rfl ?_); refine box_event ?hg (N := 4) ?hd (cs := #[.int .i64 0, .int .i64 0, .slice none 0 0]) (t := 25) ?hr ?_; (case hd => rfl); (case hg => rfl); (case hr => first | (go_simp; done) | (go_simp; rfl)); intro gR hg_ w3 hm_ hb_; have P3 := Aside0.mk (blk_below P2.out hb_); have Q3 := Aside0.mk (blk_below Q2.out hb_); have R3 := Aside0.mk (hm_); have B3 := Aside0.mk (below_step B2.out hb_); have GR := Aside0.mk (show w.heap.size ≤ gR by rw [hg_]; exact below_size B2.out); have NPR := Aside0.mk (show gP ≠ gR by rw [hg_]; have := blk_lt P2.out; omega); have NQR := Aside0.mk (show gQ ≠ gR by rw [hg_]; have := blk_lt Q2.out; omega); have p0 := (blk_cell P3.out 0).trans rfl; have p1 := (blk_cell P3.out 1).trans rfl; have p2 := (blk_cell P3.out 2).trans rfl; clear hm_ hb_ hg_ P2 Q2 B2) | (go_at_call 51; have hkey := P4; refine (Check_calls (w_ : Int) (h_ : Int) D m dcap _ HN2.out).mono ?_; rw [HE2.out]; rintro e w5 ⟨rfl, hb⟩; have P5 := Aside0.mk (blk_below P4.out hb); have Q5 := Aside0.mk (blk_below Q4.out hb); have R5 := Aside0.mk (blk_below R4.out hb); have B5 := Aside0.mk (below_step B4.out hb); clear hkey hb p0 p1 p2) | (go_at_call 51; have hkey := P3; refine (Check_calls (W : Int) (H : Int) A n cap _ HN1.out).mono ?_; rw [HE1.out]; rintro e w4 ⟨rfl, hb⟩; have P4 := Aside0.mk (blk_below P3.out hb); have Q4 := Aside0.mk (blk_below Q3.out hb); have R4 := Aside0.mk (blk_below R3.out hb); have B4 := Aside0.mk (below_step B3.out hb); clear hkey P3 Q3 R3 B3 hb p0 p1 p2; have p0 := (blk_cell Q4.out 0).trans rfl; have p1 := (blk_cell Q4.out 1).trans rfl; have p2 := (blk_cell Q4.out 2).trans rfl))
 have P7 := Aside0.mk (blk_drew P5.out)
 have Q7 := Aside0.mk (blk_drew Q5.out)
 have R7 := Aside0.mk (blk_drew R5.out)
 have B7 : Aside0 (Below w.heap.size w w5.drew) := ⟨below_drew1 B5.out⟩
 clear P4 Q4 R4 B4 P5 Q5 R5 B5
 refine start_ (n := 14) (S := fun w' => w'.cell? ⟨gP, 0, none⟩ = some (.int .i64 (W : Int)) ∧ w'.cell? ⟨gP, 1, none⟩ = some (.int .i64 (H : Int)) ∧ w'.cell? ⟨gQ, 0, none⟩ = some (.int .i64 (w_ : Int)) ∧ w'.cell? ⟨gQ, 1, none⟩ = some (.int .i64 (h_ : Int))) (ds := []) #[ff_,ff_,ff_,ff_,ff_,ff_,ff_,ff_,ff_,ff_,ff_,ff_,ff_,ff_] (by kernel_rfl) rfl rfl ⟨(blk_cell P7.out 0).trans rfl, (blk_cell P7.out 1).trans rfl, (blk_cell Q7.out 0).trans rfl, (blk_cell Q7.out 1).trans rfl⟩ (fun hHeld => ?_)
 generalize w5.drew = wd at *
 refine pure_ (i := 0) (N := some 23) (v := ?_) (a' := ?_) #[tt_,ff_,ff_,ff_,ff_,ff_,ff_,ff_,ff_,ff_,ff_,ff_,ff_,ff_] rfl rfl (by kernel_rfl) (fun _ _ _ h => h) (Or.inl ⟨by rfl, ?_⟩) ?_ ?_
 rotate_left
 ·intro w'
  go_simp
  with_reducible rfl
 rotate_left
 ·simp only [Act.put, List.setIfInBounds_toArray, List.set_cons_zero, List.set_cons_succ, i64_w, i32_w]
  rfl
 refine pure_ (i := 3) (N := some 26) (v := ?_) (a' := ?_) #[tt_,ff_,ff_,tt_,ff_,ff_,ff_,ff_,ff_,ff_,ff_,ff_,ff_,ff_] rfl rfl (by kernel_rfl) (fun _ _ _ h => h) (Or.inl ⟨by rfl, ?_⟩) ?_ ?_
 rotate_left
 ·intro w'
  go_simp
  with_reducible rfl
 rotate_left
 ·simp only [Act.put, List.setIfInBounds_toArray, List.set_cons_zero, List.set_cons_succ, i64_w, i32_w]
  rfl
 refine take_ (i := 1) (N := some 24) (v := ?_) (a' := ?_) #[tt_,tt_,ff_,tt_,ff_,ff_,ff_,ff_,ff_,ff_,ff_,ff_,ff_,ff_] rfl rfl (by kernel_rfl) (fun _ _ _ h => h) (Or.inl ⟨by rfl, ?_⟩) hHeld ?_ ?_
 rotate_left
 ·rintro w' ⟨s0, s1, s2, s3⟩
  go_simp
  with_reducible rfl
 rotate_left
 ·simp only [Act.put, List.setIfInBounds_toArray, List.set_cons_zero, List.set_cons_succ, i64_w, i32_w]
  rfl
 refine take_ (i := 4) (N := some 27) (v := ?_) (a' := ?_) #[tt_,tt_,ff_,tt_,tt_,ff_,ff_,ff_,ff_,ff_,ff_,ff_,ff_,ff_] rfl rfl (by kernel_rfl) (fun _ _ _ h => h) (Or.inl ⟨by rfl, ?_⟩) hHeld ?_ ?_
 rotate_left
 ·rintro w' ⟨s0, s1, s2, s3⟩
  go_simp
  with_reducible rfl
 rotate_left
 ·simp only [Act.put, List.setIfInBounds_toArray, List.set_cons_zero, List.set_cons_succ, i64_w, i32_w]
  rfl
 refine one_ (i := 2) (N := some 25) #[tt_,tt_,tt_,tt_,tt_,ff_,ff_,ff_,ff_,ff_,ff_,ff_,ff_,ff_] rfl rfl (by kernel_rfl) (by decide) (fun K hK => ?_)
 refine goes_ Try.func53 (by kernel_rfl) rfl #[.int .i64 (w_ : Int)] (by rfl) rfl rfl (by (try simp only [List.map_toArray, List.map_cons, List.map_nil]); rfl) ?_
 with_reducible refine (half_calls w_ _ HWN.out).mono ?_
 rintro e _ ⟨rfl, rfl⟩
 refine ⟨_, rfl, ?_⟩
 refine hK.out _ _ ⟨(blk_cell P7.out 0).trans rfl, (blk_cell P7.out 1).trans rfl, (blk_cell Q7.out 0).trans rfl, (blk_cell Q7.out 1).trans rfl⟩ (fun hHeld => ?_)
 clear hK K
 refine norm_ (a' := ?_) ?_ ?_
 rotate_left
 ·show Act.put _ (some 25) _ = _
  simp only [Act.put, List.setIfInBounds_toArray, List.set_cons_zero, List.set_cons_succ, i64_w, i32_w]
  rfl
 refine pure_ (i := 5) (N := some 28) (v := ?_) (a' := ?_) #[tt_,tt_,tt_,tt_,tt_,tt_,ff_,ff_,ff_,ff_,ff_,ff_,ff_,ff_] rfl rfl (by kernel_rfl) (fun _ _ _ h => h) (Or.inl ⟨by rfl, ?_⟩) ?_ ?_
 rotate_left
 ·intro w'
  go_simp
  with_reducible rfl
 rotate_left
 ·simp only [Act.put, List.setIfInBounds_toArray, List.set_cons_zero, List.set_cons_succ, i64_w, i32_w]
  rfl
 refine pure_ (i := 6) (N := some 29) (v := ?_) (a' := ?_) #[tt_,tt_,tt_,tt_,tt_,tt_,tt_,ff_,ff_,ff_,ff_,ff_,ff_,ff_] rfl rfl (by kernel_rfl) (fun _ _ _ h => h) (Or.inl ⟨by rfl, ?_⟩) ?_ ?_
 rotate_left
 ·intro w'
  go_simp
  with_reducible rfl
 rotate_left
 ·simp only [Act.put, List.setIfInBounds_toArray, List.set_cons_zero, List.set_cons_succ, i64_w, i32_w]
  rfl
 refine pure_ (i := 7) (N := some 30) (v := undef) (a' := ?_) #[tt_,tt_,tt_,tt_,tt_,tt_,tt_,tt_,ff_,ff_,ff_,ff_,ff_,ff_] rfl rfl (by kernel_rfl) (fun _ _ _ h => h) (Or.inr ⟨by rfl, rfl⟩) ?_ ?_
 rotate_left
 ·simp only [Act.put, List.setIfInBounds_toArray, List.set_cons_zero, List.set_cons_succ, i64_w, i32_w]
  rfl
 refine pure_ (i := 8) (N := some 31) (v := undef) (a' := ?_) #[tt_,tt_,tt_,tt_,tt_,tt_,tt_,tt_,tt_,ff_,ff_,ff_,ff_,ff_] rfl rfl (by kernel_rfl) (fun _ _ _ h => h) (Or.inr ⟨by rfl, rfl⟩) ?_ ?_
 rotate_left
 ·simp only [Act.put, List.setIfInBounds_toArray, List.set_cons_zero, List.set_cons_succ, i64_w, i32_w]
  rfl
 refine pure_ (i := 9) (N := some 32) (v := undef) (a' := ?_) #[tt_,tt_,tt_,tt_,tt_,tt_,tt_,tt_,tt_,tt_,ff_,ff_,ff_,ff_] rfl rfl (by kernel_rfl) (fun _ _ _ h => h) (Or.inr ⟨by rfl, rfl⟩) ?_ ?_
 rotate_left
 ·simp only [Act.put, List.setIfInBounds_toArray, List.set_cons_zero, List.set_cons_succ, i64_w, i32_w]
  rfl
 refine pure_ (i := 10) (N := some 33) (v := undef) (a' := ?_) #[tt_,tt_,tt_,tt_,tt_,tt_,tt_,tt_,tt_,tt_,tt_,ff_,ff_,ff_] rfl rfl (by kernel_rfl) (fun _ _ _ h => h) (Or.inr ⟨by rfl, rfl⟩) ?_ ?_
 rotate_left
 ·simp only [Act.put, List.setIfInBounds_toArray, List.set_cons_zero, List.set_cons_succ, i64_w, i32_w]
  rfl
 refine pure_ (i := 11) (N := some 34) (v := undef) (a' := ?_) #[tt_,tt_,tt_,tt_,tt_,tt_,tt_,tt_,tt_,tt_,tt_,tt_,ff_,ff_] rfl rfl (by kernel_rfl) (fun _ _ _ h => h) (Or.inr ⟨by rfl, rfl⟩) ?_ ?_
 rotate_left
 ·simp only [Act.put, List.setIfInBounds_toArray, List.set_cons_zero, List.set_cons_succ, i64_w, i32_w]
  rfl
 refine pure_ (i := 12) (N := some 35) (v := undef) (a' := ?_) #[tt_,tt_,tt_,tt_,tt_,tt_,tt_,tt_,tt_,tt_,tt_,tt_,tt_,ff_] rfl rfl (by kernel_rfl) (fun _ _ _ h => h) (Or.inr ⟨by rfl, rfl⟩) ?_ ?_
 rotate_left
 ·simp only [Act.put, List.setIfInBounds_toArray, List.set_cons_zero, List.set_cons_succ, i64_w, i32_w]
  rfl
 refine pure_ (i := 13) (N := some 36) (v := ?_) (a' := ?_) #[tt_,tt_,tt_,tt_,tt_,tt_,tt_,tt_,tt_,tt_,tt_,tt_,tt_,tt_] rfl rfl (by kernel_rfl) (fun _ _ _ h => h) (Or.inl ⟨by rfl, ?_⟩) ?_ ?_
 rotate_left
 ·intro w'
  go_simp
  with_reducible rfl
 rotate_left
 ·simp only [Act.put, List.setIfInBounds_toArray, List.set_cons_zero, List.set_cons_succ, i64_w, i32_w]
  rfl
 refine done_ (by kernel_rfl) ?_
 go_wp2_with (((with_reducible refine gate_store (p := 4) rfl ?_); refine storeP_event rfl rfl rfl gR 0 0 none 0 0 _ _ _ rfl rfl R7.out ?_; intro wz hm_ hst_ hbl_; have Rz := Aside0.mk (hm_); have Bz := Aside0.mk (B7.out.trans (hbl_ _ GR.out)); clear hm_ hst_ hbl_))
 refine bodyPost_ret (results_ct rfl _ _ gR 25 #[.int .i64 0, .int .i64 0, .slice none 0 0] (0, 0) _ rfl Rz.out Try.underlying25 rfl (by kernel_rfl)) rfl ?_
 exact ⟨rfl, Bz.out⟩
set_option maxHeartbeats 4000000 in
set_option maxRecDepth 100000 in
theorem Join_high (W H : Nat) (A : Option Addr) (n cap : Nat) (w_ h_ : Nat) (D : Option Addr) (m dcap : Nat)  (w : World) (hE1 : checkE (W : Int) (H : Int) n = 0) (hE2 : checkE (w_ : Int) (h_ : Int) m = 0) (hW : hf w_ = W) (hH : hf h_ ≠ H) :
    Calls Try.prog 33 #[.agg #[.int .i64 (W : Int), .int .i64 (H : Int), .slice A n cap], .agg #[.int .i64 (w_ : Int), .int .i64 (h_ : Int), .slice D m dcap]] w fun e w' => e = .returned (.tuple #[.agg #[.int .i64 0, .int .i64 0, .slice none 0 0], .int .i64 141]) ∧ Below w.heap.size w w' := by
 have hu25 := Try.underlying25
 have HE1 := Aside0.mk hE1
 have HE2 := Aside0.mk hE2
 have HN1 : Aside0 (n < 9223372036854775808) := ⟨by obtain ⟨_, _, _, _, _, _, _, _, h, hn⟩ := checkE_zero hE1; omega⟩
 have HN2 : Aside0 (m < 9223372036854775808) := ⟨by obtain ⟨_, _, _, _, _, _, _, _, h, hn⟩ := checkE_zero hE2; omega⟩
 have HWN : Aside0 (w_ < 1000000) := ⟨by obtain ⟨_, _, _, _, _, _, _, _, h, hn⟩ := checkE_zero hE2; omega⟩
 have HHN : Aside0 (h_ < 1000000) := ⟨by obtain ⟨_, _, _, _, _, _, _, _, h, hn⟩ := checkE_zero hE2; omega⟩
 have t1 : (((hf w_ : Nat) : Int) != (W : Int)) = false := by rw [bne_eq_false_iff_eq]; omega
 have t2 : (((hf h_ : Nat) : Int) != (H : Int)) = true := by rw [bne_iff_ne]; omega
 clear hE1 hE2 hW hH
 go_enter Try.func33, Try.ntmps33
 go_upto_region 7 with (first | ((with_reducible refine gate_dst (N := 2) rfl ?_); refine box_event ?hg (N := 2) ?hd (cs := #[.int .i64 (W : Int), .int .i64 (H : Int), .slice A n cap]) (t := 25) ?hr ?_; (case hd => rfl); (case hg => rfl); (case hr => first | (go_simp; done) | (go_simp; rfl)); intro gP hg_ w1 hm_ hb_; have P1 := Aside0.mk (hm_); have B1 := Aside0.mk (hb_); have GP := Aside0.mk (show w.heap.size ≤ gP by rw [hg_]; exact Nat.le_refl _); clear hm_ hb_ hg_) | ((with_reducible refine gate_dst (N := 3) rfl ?_); refine box_event ?hg (N := 3) ?hd (cs := #[.int .i64 (w_ : Int), .int .i64 (h_ : Int), .slice D m dcap]) (t := 25) ?hr ?_; (case hd => rfl); (case hg => rfl); (case hr => first | (go_simp; done) | (go_simp; rfl)); intro gQ hg_ w2 hm_ hb_; have P2 := Aside0.mk (blk_below P1.out hb_); have Q2 := Aside0.mk (hm_); have B2 := Aside0.mk (below_step B1.out hb_); have NPQ := Aside0.mk (show gP ≠ gQ by rw [hg_]; have := blk_lt P1.out; omega); clear hm_ hb_ hg_ P1 B1) | ((with_reducible refine gate_dst (N := 4) rfl ?_); refine box_event ?hg (N := 4) ?hd (cs := #[.int .i64 0, .int .i64 0, .slice none 0 0]) (t := 25) ?hr ?_; (case hd => rfl); (case hg => rfl); (case hr => first | (go_simp; done) | (go_simp; rfl)); intro gR hg_ w3 hm_ hb_; have P3 := Aside0.mk (blk_below P2.out hb_); have Q3 := Aside0.mk (blk_below Q2.out hb_); have R3 := Aside0.mk (hm_); have B3 := Aside0.mk (below_step B2.out hb_); have GR := Aside0.mk (show w.heap.size ≤ gR by rw [hg_]; exact below_size B2.out); have NPR := Aside0.mk (show gP ≠ gR by rw [hg_]; have := blk_lt P2.out; omega); have NQR := Aside0.mk (show gQ ≠ gR by rw [hg_]; have := blk_lt Q2.out; omega); have p0 := (blk_cell P3.out 0).trans rfl; have p1 := (blk_cell P3.out 1).trans rfl; have p2 := (blk_cell P3.out 2).trans rfl; clear hm_ hb_ hg_ P2 Q2 B2) | (go_at_call 51; have hkey := P4; refine (Check_calls (w_ : Int) (h_ : Int) D m dcap _ HN2.out).mono ?_; rw [HE2.out]; rintro e w5 ⟨rfl, hb⟩; have P5 := Aside0.mk (blk_below P4.out hb); have Q5 := Aside0.mk (blk_below Q4.out hb); have R5 := Aside0.mk (blk_below R4.out hb); have B5 := Aside0.mk (below_step B4.out hb); clear hkey hb p0 p1 p2) | (go_at_call 51; have hkey := P3; refine (Check_calls (W : Int) (H : Int) A n cap _ HN1.out).mono ?_; rw [HE1.out]; rintro e w4 ⟨rfl, hb⟩; have P4 := Aside0.mk (blk_below P3.out hb); have Q4 := Aside0.mk (blk_below Q3.out hb); have R4 := Aside0.mk (blk_below R3.out hb); have B4 := Aside0.mk (below_step B3.out hb); clear hkey P3 Q3 R3 B3 hb p0 p1 p2; have p0 := (blk_cell Q4.out 0).trans rfl; have p1 := (blk_cell Q4.out 1).trans rfl; have p2 := (blk_cell Q4.out 2).trans rfl))
 have P7 := Aside0.mk (blk_drew P5.out)
 have Q7 := Aside0.mk (blk_drew Q5.out)
 have R7 := Aside0.mk (blk_drew R5.out)
 have B7 : Aside0 (Below w.heap.size w w5.drew) := ⟨below_drew1 B5.out⟩
 clear P4 Q4 R4 B4 P5 Q5 R5 B5
 refine start_ (n := 14) (S := fun w' => w'.cell? ⟨gP, 0, none⟩ = some (.int .i64 (W : Int)) ∧ w'.cell? ⟨gP, 1, none⟩ = some (.int .i64 (H : Int)) ∧ w'.cell? ⟨gQ, 0, none⟩ = some (.int .i64 (w_ : Int)) ∧ w'.cell? ⟨gQ, 1, none⟩ = some (.int .i64 (h_ : Int))) (ds := []) #[ff_,ff_,ff_,ff_,ff_,ff_,ff_,ff_,ff_,ff_,ff_,ff_,ff_,ff_] (by kernel_rfl) rfl rfl ⟨(blk_cell P7.out 0).trans rfl, (blk_cell P7.out 1).trans rfl, (blk_cell Q7.out 0).trans rfl, (blk_cell Q7.out 1).trans rfl⟩ (fun hHeld => ?_)
 generalize w5.drew = wd at *
 refine pure_ (i := 0) (N := some 23) (v := ?_) (a' := ?_) #[tt_,ff_,ff_,ff_,ff_,ff_,ff_,ff_,ff_,ff_,ff_,ff_,ff_,ff_] rfl rfl (by kernel_rfl) (fun _ _ _ h => h) (Or.inl ⟨by rfl, ?_⟩) ?_ ?_
 rotate_left
 ·intro w'
  go_simp
  with_reducible rfl
 rotate_left
 ·simp only [Act.put, List.setIfInBounds_toArray, List.set_cons_zero, List.set_cons_succ, i64_w, i32_w]
  rfl
 refine pure_ (i := 3) (N := some 26) (v := ?_) (a' := ?_) #[tt_,ff_,ff_,tt_,ff_,ff_,ff_,ff_,ff_,ff_,ff_,ff_,ff_,ff_] rfl rfl (by kernel_rfl) (fun _ _ _ h => h) (Or.inl ⟨by rfl, ?_⟩) ?_ ?_
 rotate_left
 ·intro w'
  go_simp
  with_reducible rfl
 rotate_left
 ·simp only [Act.put, List.setIfInBounds_toArray, List.set_cons_zero, List.set_cons_succ, i64_w, i32_w]
  rfl
 refine take_ (i := 1) (N := some 24) (v := ?_) (a' := ?_) #[tt_,tt_,ff_,tt_,ff_,ff_,ff_,ff_,ff_,ff_,ff_,ff_,ff_,ff_] rfl rfl (by kernel_rfl) (fun _ _ _ h => h) (Or.inl ⟨by rfl, ?_⟩) hHeld ?_ ?_
 rotate_left
 ·rintro w' ⟨s0, s1, s2, s3⟩
  go_simp
  with_reducible rfl
 rotate_left
 ·simp only [Act.put, List.setIfInBounds_toArray, List.set_cons_zero, List.set_cons_succ, i64_w, i32_w]
  rfl
 refine take_ (i := 4) (N := some 27) (v := ?_) (a' := ?_) #[tt_,tt_,ff_,tt_,tt_,ff_,ff_,ff_,ff_,ff_,ff_,ff_,ff_,ff_] rfl rfl (by kernel_rfl) (fun _ _ _ h => h) (Or.inl ⟨by rfl, ?_⟩) hHeld ?_ ?_
 rotate_left
 ·rintro w' ⟨s0, s1, s2, s3⟩
  go_simp
  with_reducible rfl
 rotate_left
 ·simp only [Act.put, List.setIfInBounds_toArray, List.set_cons_zero, List.set_cons_succ, i64_w, i32_w]
  rfl
 refine one_ (i := 2) (N := some 25) #[tt_,tt_,tt_,tt_,tt_,ff_,ff_,ff_,ff_,ff_,ff_,ff_,ff_,ff_] rfl rfl (by kernel_rfl) (by decide) (fun K hK => ?_)
 refine goes_ Try.func53 (by kernel_rfl) rfl #[.int .i64 (w_ : Int)] (by rfl) rfl rfl (by (try simp only [List.map_toArray, List.map_cons, List.map_nil]); rfl) ?_
 with_reducible refine (half_calls w_ _ HWN.out).mono ?_
 rintro e _ ⟨rfl, rfl⟩
 refine ⟨_, rfl, ?_⟩
 refine hK.out _ _ ⟨(blk_cell P7.out 0).trans rfl, (blk_cell P7.out 1).trans rfl, (blk_cell Q7.out 0).trans rfl, (blk_cell Q7.out 1).trans rfl⟩ (fun hHeld => ?_)
 clear hK K
 refine norm_ (a' := ?_) ?_ ?_
 rotate_left
 ·show Act.put _ (some 25) _ = _
  simp only [Act.put, List.setIfInBounds_toArray, List.set_cons_zero, List.set_cons_succ, i64_w, i32_w]
  rfl
 refine pure_ (i := 5) (N := some 28) (v := ?_) (a' := ?_) #[tt_,tt_,tt_,tt_,tt_,tt_,ff_,ff_,ff_,ff_,ff_,ff_,ff_,ff_] rfl rfl (by kernel_rfl) (fun _ _ _ h => h) (Or.inl ⟨by rfl, ?_⟩) ?_ ?_
 rotate_left
 ·intro w'
  go_simp
  with_reducible rfl
 rotate_left
 ·simp only [Act.put, List.setIfInBounds_toArray, List.set_cons_zero, List.set_cons_succ, i64_w, i32_w]
  rfl
 refine pure_ (i := 6) (N := some 29) (v := ?_) (a' := ?_) #[tt_,tt_,tt_,tt_,tt_,tt_,tt_,ff_,ff_,ff_,ff_,ff_,ff_,ff_] rfl rfl (by kernel_rfl) (fun _ _ _ h => h) (Or.inl ⟨by rfl, ?_⟩) ?_ ?_
 rotate_left
 ·intro w'
  go_simp
  with_reducible rfl
 rotate_left
 ·simp only [Act.put, List.setIfInBounds_toArray, List.set_cons_zero, List.set_cons_succ, i64_w, i32_w]
  rfl
 refine pure_ (i := 7) (N := some 30) (v := ?_) (a' := ?_) #[tt_,tt_,tt_,tt_,tt_,tt_,tt_,tt_,ff_,ff_,ff_,ff_,ff_,ff_] rfl rfl (by kernel_rfl) (fun _ _ _ h => h) (Or.inl ⟨by rfl, ?_⟩) ?_ ?_
 rotate_left
 ·intro w'
  go_simp
  with_reducible rfl
 rotate_left
 ·simp only [Act.put, List.setIfInBounds_toArray, List.set_cons_zero, List.set_cons_succ, i64_w, i32_w]
  rfl
 refine pure_ (i := 10) (N := some 33) (v := ?_) (a' := ?_) #[tt_,tt_,tt_,tt_,tt_,tt_,tt_,tt_,ff_,ff_,tt_,ff_,ff_,ff_] rfl rfl (by kernel_rfl) (fun _ _ _ h => h) (Or.inl ⟨by rfl, ?_⟩) ?_ ?_
 rotate_left
 ·intro w'
  go_simp
  with_reducible rfl
 rotate_left
 ·simp only [Act.put, List.setIfInBounds_toArray, List.set_cons_zero, List.set_cons_succ, i64_w, i32_w]
  rfl
 refine take_ (i := 8) (N := some 31) (v := ?_) (a' := ?_) #[tt_,tt_,tt_,tt_,tt_,tt_,tt_,tt_,tt_,ff_,tt_,ff_,ff_,ff_] rfl rfl (by kernel_rfl) (fun _ _ _ h => h) (Or.inl ⟨by rfl, ?_⟩) hHeld ?_ ?_
 rotate_left
 ·rintro w' ⟨s0, s1, s2, s3⟩
  go_simp
  with_reducible rfl
 rotate_left
 ·simp only [Act.put, List.setIfInBounds_toArray, List.set_cons_zero, List.set_cons_succ, i64_w, i32_w]
  rfl
 refine take_ (i := 11) (N := some 34) (v := ?_) (a' := ?_) #[tt_,tt_,tt_,tt_,tt_,tt_,tt_,tt_,tt_,ff_,tt_,tt_,ff_,ff_] rfl rfl (by kernel_rfl) (fun _ _ _ h => h) (Or.inl ⟨by rfl, ?_⟩) hHeld ?_ ?_
 rotate_left
 ·rintro w' ⟨s0, s1, s2, s3⟩
  go_simp
  with_reducible rfl
 rotate_left
 ·simp only [Act.put, List.setIfInBounds_toArray, List.set_cons_zero, List.set_cons_succ, i64_w, i32_w]
  rfl
 refine one_ (i := 9) (N := some 32) #[tt_,tt_,tt_,tt_,tt_,tt_,tt_,tt_,tt_,tt_,tt_,tt_,ff_,ff_] rfl rfl (by kernel_rfl) (by decide) (fun K hK => ?_)
 refine goes_ Try.func53 (by kernel_rfl) rfl #[.int .i64 (h_ : Int)] (by rfl) rfl rfl (by (try simp only [List.map_toArray, List.map_cons, List.map_nil]); rfl) ?_
 with_reducible refine (half_calls h_ _ HHN.out).mono ?_
 rintro e _ ⟨rfl, rfl⟩
 refine ⟨_, rfl, ?_⟩
 refine hK.out _ _ ⟨(blk_cell P7.out 0).trans rfl, (blk_cell P7.out 1).trans rfl, (blk_cell Q7.out 0).trans rfl, (blk_cell Q7.out 1).trans rfl⟩ (fun hHeld => ?_)
 clear hK K
 refine norm_ (a' := ?_) ?_ ?_
 rotate_left
 ·show Act.put _ (some 32) _ = _
  simp only [Act.put, List.setIfInBounds_toArray, List.set_cons_zero, List.set_cons_succ, i64_w, i32_w]
  rfl
 refine pure_ (i := 12) (N := some 35) (v := ?_) (a' := ?_) #[tt_,tt_,tt_,tt_,tt_,tt_,tt_,tt_,tt_,tt_,tt_,tt_,tt_,ff_] rfl rfl (by kernel_rfl) (fun _ _ _ h => h) (Or.inl ⟨by rfl, ?_⟩) ?_ ?_
 rotate_left
 ·intro w'
  go_simp
  with_reducible rfl
 rotate_left
 ·simp only [Act.put, List.setIfInBounds_toArray, List.set_cons_zero, List.set_cons_succ, i64_w, i32_w]
  rfl
 refine pure_ (i := 13) (N := some 36) (v := ?_) (a' := ?_) #[tt_,tt_,tt_,tt_,tt_,tt_,tt_,tt_,tt_,tt_,tt_,tt_,tt_,tt_] rfl rfl (by kernel_rfl) (fun _ _ _ h => h) (Or.inl ⟨by rfl, ?_⟩) ?_ ?_
 rotate_left
 ·intro w'
  go_simp
  with_reducible rfl
 rotate_left
 ·simp only [Act.put, List.setIfInBounds_toArray, List.set_cons_zero, List.set_cons_succ, i64_w, i32_w]
  rfl
 refine done_ (by kernel_rfl) ?_
 go_wp2_with (((with_reducible refine gate_store (p := 4) rfl ?_); refine storeP_event rfl rfl rfl gR 0 0 none 0 0 _ _ _ rfl rfl R7.out ?_; intro wz hm_ hst_ hbl_; have Rz := Aside0.mk (hm_); have Bz := Aside0.mk (B7.out.trans (hbl_ _ GR.out)); clear hm_ hst_ hbl_))
 refine bodyPost_ret (results_ct rfl _ _ gR 25 #[.int .i64 0, .int .i64 0, .slice none 0 0] (0, 0) _ rfl Rz.out Try.underlying25 rfl (by kernel_rfl)) rfl ?_
 exact ⟨rfl, Bz.out⟩
set_option maxHeartbeats 4000000 in
set_option maxRecDepth 100000 in
theorem Join_ok (W H : Nat) (A : Option Addr) (n cap : Nat) (w_ h_ : Nat) (D : Option Addr) (m dcap : Nat) (cs fs : List Nat) (w : World) (hp : (Pl.mk W H cs).ok) (hq : (Pl.mk w_ h_ fs).ok) (hn : cs.length = n) (hm : fs.length = m) (hC : (nat .u32).C w A n cs) (hcap : n ≤ cap) (hD : (nat .u32).C w D m fs) (hW : hf w_ = W) (hH : hf h_ = H) :
    Calls Try.prog 33 #[.agg #[.int .i64 (W : Int), .int .i64 (H : Int), .slice A n cap], .agg #[.int .i64 (w_ : Int), .int .i64 (h_ : Int), .slice D m dcap]] w fun e w' => ∃ v, e = .returned (.tuple #[.agg #[.int .i64 (w_ : Int), .int .i64 (h_ : Int), v], .int .i64 0]) ∧ (nat .u32).R 50 w' w.heap.size (fun _ => True) v (joiS W H w_ h_ cs fs) ∧ Below w.heap.size w w' := by
 have hE1 : checkE (W : Int) (H : Int) n = 0 := by rw [← hn]; exact hp.checkE
 have hE2 : checkE (w_ : Int) (h_ : Int) m = 0 := by rw [← hm]; exact hq.checkE
 have hu25 := Try.underlying25
 have HE1 := Aside0.mk hE1
 have HE2 := Aside0.mk hE2
 have HN1 : Aside0 (n < 9223372036854775808) := ⟨by obtain ⟨_, _, _, _, _, _, _, _, h, hn⟩ := checkE_zero hE1; omega⟩
 have HN2 : Aside0 (m < 9223372036854775808) := ⟨by obtain ⟨_, _, _, _, _, _, _, _, h, hn⟩ := checkE_zero hE2; omega⟩
 have HWN : Aside0 (w_ < 1000000) := ⟨by obtain ⟨_, _, _, _, _, _, _, _, h, hn⟩ := checkE_zero hE2; omega⟩
 have HHN : Aside0 (h_ < 1000000) := ⟨by obtain ⟨_, _, _, _, _, _, _, _, h, hn⟩ := checkE_zero hE2; omega⟩
 have t1 : (((hf w_ : Nat) : Int) != (W : Int)) = false := by rw [bne_eq_false_iff_eq]; omega
 have t2 : (((hf h_ : Nat) : Int) != (H : Int)) = false := by rw [bne_eq_false_iff_eq]; omega
 have HP := Aside0.mk hp
 obtain ⟨q1, q2, q3, q4, q5, q6, q7⟩ := hq
 have q1 : 0 < w_ := q1
 have q2 : 0 < h_ := q2
 have q3 : w_ ≤ 1024 := q3
 have q4 : h_ ≤ 1024 := q4
 have q5 : w_ * h_ ≤ 65536 := q5
 have q6 : fs.length = w_ * h_ := q6
 have HC := Aside0.mk hC
 have HD_ := Aside0.mk hD
 have HCAP := Aside0.mk hcap
 have HNC := Aside0.mk hn
 have HXX := Aside0.mk q7
 have HH1 : Aside0 (1 ≤ w_ ∧ w_ ≤ 1024) := ⟨⟨q1, q3⟩⟩
 have HH2 : Aside0 (1 ≤ h_ ∧ h_ ≤ 1024) := ⟨⟨q2, q4⟩⟩
 obtain ⟨es, hes⟩ : ∃ es, expS W H w_ h_ cs = es := ⟨_, rfl⟩
 have hel : es.length = m := by rw [← hes, expS_length, ← hm, q6]
 have HEL := Aside0.mk hel
 have HEX : Aside0 (∀ i, gt es i < 4294967296) := ⟨by rw [← hes]; exact expS_lt HP.out q3 q4⟩
 have HFS : Aside0 (joiS W H w_ h_ cs fs = zipTo addA fs es m) := ⟨by unfold joiS zipN; rw [hes, hel]⟩
 have HES : Aside0 (resZ expandS W H w_ h_ cs = es) := ⟨hes⟩
 have HNB : Aside0 (0 < m ∧ m ≤ 65536) := ⟨by rw [← hm, q6]; exact ⟨Nat.mul_pos q1 q2, q5⟩⟩
 rw [HFS.out]
 clear q1 q2 q3 q4 q5 q6 q7 hn hm hC hcap hD hes hel hE1 hE2 hW hH hp
 go_enter Try.func33, Try.ntmps33
 go_upto_region 7 with (first | ((with_reducible refine gate_dst (N := 2) rfl ?_); refine box_event ?hg (N := 2) ?hd (cs := #[.int .i64 (W : Int), .int .i64 (H : Int), .slice A n cap]) (t := 25) ?hr ?_; (case hd => rfl); (case hg => rfl); (case hr => first | (go_simp; done) | (go_simp; rfl)); intro gP hg_ w1 hm_ hb_; have P1 := Aside0.mk (hm_); have B1 := Aside0.mk (hb_); have GP := Aside0.mk (show w.heap.size ≤ gP by rw [hg_]; exact Nat.le_refl _); clear hm_ hb_ hg_) | ((with_reducible refine gate_dst (N := 3) rfl ?_); refine box_event ?hg (N := 3) ?hd (cs := #[.int .i64 (w_ : Int), .int .i64 (h_ : Int), .slice D m dcap]) (t := 25) ?hr ?_; (case hd => rfl); (case hg => rfl); (case hr => first | (go_simp; done) | (go_simp; rfl)); intro gQ hg_ w2 hm_ hb_; have P2 := Aside0.mk (blk_below P1.out hb_); have Q2 := Aside0.mk (hm_); have B2 := Aside0.mk (below_step B1.out hb_); have NPQ := Aside0.mk (show gP ≠ gQ by rw [hg_]; have := blk_lt P1.out; omega); clear hm_ hb_ hg_ P1 B1) | ((with_reducible refine gate_dst (N := 4) rfl ?_); refine box_event ?hg (N := 4) ?hd (cs := #[.int .i64 0, .int .i64 0, .slice none 0 0]) (t := 25) ?hr ?_; (case hd => rfl); (case hg => rfl); (case hr => first | (go_simp; done) | (go_simp; rfl)); intro gR hg_ w3 hm_ hb_; have P3 := Aside0.mk (blk_below P2.out hb_); have Q3 := Aside0.mk (blk_below Q2.out hb_); have R3 := Aside0.mk (hm_); have B3 := Aside0.mk (below_step B2.out hb_); have GR := Aside0.mk (show w.heap.size ≤ gR by rw [hg_]; exact below_size B2.out); have NPR := Aside0.mk (show gP ≠ gR by rw [hg_]; have := blk_lt P2.out; omega); have NQR := Aside0.mk (show gQ ≠ gR by rw [hg_]; have := blk_lt Q2.out; omega); have p0 := (blk_cell P3.out 0).trans rfl; have p1 := (blk_cell P3.out 1).trans rfl; have p2 := (blk_cell P3.out 2).trans rfl; clear hm_ hb_ hg_ P2 Q2 B2) | (go_at_call 51; have hkey := P4; refine (Check_calls (w_ : Int) (h_ : Int) D m dcap _ HN2.out).mono ?_; rw [HE2.out]; rintro e w5 ⟨rfl, hb⟩; have P5 := Aside0.mk (blk_below P4.out hb); have Q5 := Aside0.mk (blk_below Q4.out hb); have R5 := Aside0.mk (blk_below R4.out hb); have B5 := Aside0.mk (below_step B4.out hb); clear hkey hb p0 p1 p2) | (go_at_call 51; have hkey := P3; refine (Check_calls (W : Int) (H : Int) A n cap _ HN1.out).mono ?_; rw [HE1.out]; rintro e w4 ⟨rfl, hb⟩; have P4 := Aside0.mk (blk_below P3.out hb); have Q4 := Aside0.mk (blk_below Q3.out hb); have R4 := Aside0.mk (blk_below R3.out hb); have B4 := Aside0.mk (below_step B3.out hb); clear hkey P3 Q3 R3 B3 hb p0 p1 p2; have p0 := (blk_cell Q4.out 0).trans rfl; have p1 := (blk_cell Q4.out 1).trans rfl; have p2 := (blk_cell Q4.out 2).trans rfl))
 have P7 := Aside0.mk (blk_drew P5.out)
 have Q7 := Aside0.mk (blk_drew Q5.out)
 have R7 := Aside0.mk (blk_drew R5.out)
 have B7 : Aside0 (Below w.heap.size w w5.drew) := ⟨below_drew1 B5.out⟩
 clear P4 Q4 R4 B4 P5 Q5 R5 B5
 refine start_ (n := 14) (S := fun w' => w'.cell? ⟨gP, 0, none⟩ = some (.int .i64 (W : Int)) ∧ w'.cell? ⟨gP, 1, none⟩ = some (.int .i64 (H : Int)) ∧ w'.cell? ⟨gQ, 0, none⟩ = some (.int .i64 (w_ : Int)) ∧ w'.cell? ⟨gQ, 1, none⟩ = some (.int .i64 (h_ : Int))) (ds := []) #[ff_,ff_,ff_,ff_,ff_,ff_,ff_,ff_,ff_,ff_,ff_,ff_,ff_,ff_] (by kernel_rfl) rfl rfl ⟨(blk_cell P7.out 0).trans rfl, (blk_cell P7.out 1).trans rfl, (blk_cell Q7.out 0).trans rfl, (blk_cell Q7.out 1).trans rfl⟩ (fun hHeld => ?_)
 generalize w5.drew = wd at *
 refine pure_ (i := 0) (N := some 23) (v := ?_) (a' := ?_) #[tt_,ff_,ff_,ff_,ff_,ff_,ff_,ff_,ff_,ff_,ff_,ff_,ff_,ff_] rfl rfl (by kernel_rfl) (fun _ _ _ h => h) (Or.inl ⟨by rfl, ?_⟩) ?_ ?_
 rotate_left
 ·intro w'
  go_simp
  with_reducible rfl
 rotate_left
 ·simp only [Act.put, List.setIfInBounds_toArray, List.set_cons_zero, List.set_cons_succ, i64_w, i32_w]
  rfl
 refine pure_ (i := 3) (N := some 26) (v := ?_) (a' := ?_) #[tt_,ff_,ff_,tt_,ff_,ff_,ff_,ff_,ff_,ff_,ff_,ff_,ff_,ff_] rfl rfl (by kernel_rfl) (fun _ _ _ h => h) (Or.inl ⟨by rfl, ?_⟩) ?_ ?_
 rotate_left
 ·intro w'
  go_simp
  with_reducible rfl
 rotate_left
 ·simp only [Act.put, List.setIfInBounds_toArray, List.set_cons_zero, List.set_cons_succ, i64_w, i32_w]
  rfl
 refine take_ (i := 1) (N := some 24) (v := ?_) (a' := ?_) #[tt_,tt_,ff_,tt_,ff_,ff_,ff_,ff_,ff_,ff_,ff_,ff_,ff_,ff_] rfl rfl (by kernel_rfl) (fun _ _ _ h => h) (Or.inl ⟨by rfl, ?_⟩) hHeld ?_ ?_
 rotate_left
 ·rintro w' ⟨s0, s1, s2, s3⟩
  go_simp
  with_reducible rfl
 rotate_left
 ·simp only [Act.put, List.setIfInBounds_toArray, List.set_cons_zero, List.set_cons_succ, i64_w, i32_w]
  rfl
 refine take_ (i := 4) (N := some 27) (v := ?_) (a' := ?_) #[tt_,tt_,ff_,tt_,tt_,ff_,ff_,ff_,ff_,ff_,ff_,ff_,ff_,ff_] rfl rfl (by kernel_rfl) (fun _ _ _ h => h) (Or.inl ⟨by rfl, ?_⟩) hHeld ?_ ?_
 rotate_left
 ·rintro w' ⟨s0, s1, s2, s3⟩
  go_simp
  with_reducible rfl
 rotate_left
 ·simp only [Act.put, List.setIfInBounds_toArray, List.set_cons_zero, List.set_cons_succ, i64_w, i32_w]
  rfl
 refine one_ (i := 2) (N := some 25) #[tt_,tt_,tt_,tt_,tt_,ff_,ff_,ff_,ff_,ff_,ff_,ff_,ff_,ff_] rfl rfl (by kernel_rfl) (by decide) (fun K hK => ?_)
 refine goes_ Try.func53 (by kernel_rfl) rfl #[.int .i64 (w_ : Int)] (by rfl) rfl rfl (by (try simp only [List.map_toArray, List.map_cons, List.map_nil]); rfl) ?_
 with_reducible refine (half_calls w_ _ HWN.out).mono ?_
 rintro e _ ⟨rfl, rfl⟩
 refine ⟨_, rfl, ?_⟩
 refine hK.out _ _ ⟨(blk_cell P7.out 0).trans rfl, (blk_cell P7.out 1).trans rfl, (blk_cell Q7.out 0).trans rfl, (blk_cell Q7.out 1).trans rfl⟩ (fun hHeld => ?_)
 clear hK K
 refine norm_ (a' := ?_) ?_ ?_
 rotate_left
 ·show Act.put _ (some 25) _ = _
  simp only [Act.put, List.setIfInBounds_toArray, List.set_cons_zero, List.set_cons_succ, i64_w, i32_w]
  rfl
 refine pure_ (i := 5) (N := some 28) (v := ?_) (a' := ?_) #[tt_,tt_,tt_,tt_,tt_,tt_,ff_,ff_,ff_,ff_,ff_,ff_,ff_,ff_] rfl rfl (by kernel_rfl) (fun _ _ _ h => h) (Or.inl ⟨by rfl, ?_⟩) ?_ ?_
 rotate_left
 ·intro w'
  go_simp
  with_reducible rfl
 rotate_left
 ·simp only [Act.put, List.setIfInBounds_toArray, List.set_cons_zero, List.set_cons_succ, i64_w, i32_w]
  rfl
 refine pure_ (i := 6) (N := some 29) (v := ?_) (a' := ?_) #[tt_,tt_,tt_,tt_,tt_,tt_,tt_,ff_,ff_,ff_,ff_,ff_,ff_,ff_] rfl rfl (by kernel_rfl) (fun _ _ _ h => h) (Or.inl ⟨by rfl, ?_⟩) ?_ ?_
 rotate_left
 ·intro w'
  go_simp
  with_reducible rfl
 rotate_left
 ·simp only [Act.put, List.setIfInBounds_toArray, List.set_cons_zero, List.set_cons_succ, i64_w, i32_w]
  rfl
 refine pure_ (i := 7) (N := some 30) (v := ?_) (a' := ?_) #[tt_,tt_,tt_,tt_,tt_,tt_,tt_,tt_,ff_,ff_,ff_,ff_,ff_,ff_] rfl rfl (by kernel_rfl) (fun _ _ _ h => h) (Or.inl ⟨by rfl, ?_⟩) ?_ ?_
 rotate_left
 ·intro w'
  go_simp
  with_reducible rfl
 rotate_left
 ·simp only [Act.put, List.setIfInBounds_toArray, List.set_cons_zero, List.set_cons_succ, i64_w, i32_w]
  rfl
 refine pure_ (i := 10) (N := some 33) (v := ?_) (a' := ?_) #[tt_,tt_,tt_,tt_,tt_,tt_,tt_,tt_,ff_,ff_,tt_,ff_,ff_,ff_] rfl rfl (by kernel_rfl) (fun _ _ _ h => h) (Or.inl ⟨by rfl, ?_⟩) ?_ ?_
 rotate_left
 ·intro w'
  go_simp
  with_reducible rfl
 rotate_left
 ·simp only [Act.put, List.setIfInBounds_toArray, List.set_cons_zero, List.set_cons_succ, i64_w, i32_w]
  rfl
 refine take_ (i := 8) (N := some 31) (v := ?_) (a' := ?_) #[tt_,tt_,tt_,tt_,tt_,tt_,tt_,tt_,tt_,ff_,tt_,ff_,ff_,ff_] rfl rfl (by kernel_rfl) (fun _ _ _ h => h) (Or.inl ⟨by rfl, ?_⟩) hHeld ?_ ?_
 rotate_left
 ·rintro w' ⟨s0, s1, s2, s3⟩
  go_simp
  with_reducible rfl
 rotate_left
 ·simp only [Act.put, List.setIfInBounds_toArray, List.set_cons_zero, List.set_cons_succ, i64_w, i32_w]
  rfl
 refine take_ (i := 11) (N := some 34) (v := ?_) (a' := ?_) #[tt_,tt_,tt_,tt_,tt_,tt_,tt_,tt_,tt_,ff_,tt_,tt_,ff_,ff_] rfl rfl (by kernel_rfl) (fun _ _ _ h => h) (Or.inl ⟨by rfl, ?_⟩) hHeld ?_ ?_
 rotate_left
 ·rintro w' ⟨s0, s1, s2, s3⟩
  go_simp
  with_reducible rfl
 rotate_left
 ·simp only [Act.put, List.setIfInBounds_toArray, List.set_cons_zero, List.set_cons_succ, i64_w, i32_w]
  rfl
 refine one_ (i := 9) (N := some 32) #[tt_,tt_,tt_,tt_,tt_,tt_,tt_,tt_,tt_,tt_,tt_,tt_,ff_,ff_] rfl rfl (by kernel_rfl) (by decide) (fun K hK => ?_)
 refine goes_ Try.func53 (by kernel_rfl) rfl #[.int .i64 (h_ : Int)] (by rfl) rfl rfl (by (try simp only [List.map_toArray, List.map_cons, List.map_nil]); rfl) ?_
 with_reducible refine (half_calls h_ _ HHN.out).mono ?_
 rintro e _ ⟨rfl, rfl⟩
 refine ⟨_, rfl, ?_⟩
 refine hK.out _ _ ⟨(blk_cell P7.out 0).trans rfl, (blk_cell P7.out 1).trans rfl, (blk_cell Q7.out 0).trans rfl, (blk_cell Q7.out 1).trans rfl⟩ (fun hHeld => ?_)
 clear hK K
 refine norm_ (a' := ?_) ?_ ?_
 rotate_left
 ·show Act.put _ (some 32) _ = _
  simp only [Act.put, List.setIfInBounds_toArray, List.set_cons_zero, List.set_cons_succ, i64_w, i32_w]
  rfl
 refine pure_ (i := 12) (N := some 35) (v := ?_) (a' := ?_) #[tt_,tt_,tt_,tt_,tt_,tt_,tt_,tt_,tt_,tt_,tt_,tt_,tt_,ff_] rfl rfl (by kernel_rfl) (fun _ _ _ h => h) (Or.inl ⟨by rfl, ?_⟩) ?_ ?_
 rotate_left
 ·intro w'
  go_simp
  with_reducible rfl
 rotate_left
 ·simp only [Act.put, List.setIfInBounds_toArray, List.set_cons_zero, List.set_cons_succ, i64_w, i32_w]
  rfl
 refine pure_ (i := 13) (N := some 36) (v := ?_) (a' := ?_) #[tt_,tt_,tt_,tt_,tt_,tt_,tt_,tt_,tt_,tt_,tt_,tt_,tt_,tt_] rfl rfl (by kernel_rfl) (fun _ _ _ h => h) (Or.inl ⟨by rfl, ?_⟩) ?_ ?_
 rotate_left
 ·intro w'
  go_simp
  with_reducible rfl
 rotate_left
 ·simp only [Act.put, List.setIfInBounds_toArray, List.set_cons_zero, List.set_cons_succ, i64_w, i32_w]
  rfl
 refine done_ (by kernel_rfl) ?_
 have p0 := (blk_cell P7.out 0).trans rfl
 have p1 := (blk_cell P7.out 1).trans rfl
 have p2 := (blk_cell P7.out 2).trans rfl
 have q0 := (blk_cell Q7.out 0).trans rfl
 have q1 := (blk_cell Q7.out 1).trans rfl
 go_wp2_with (first | (go_at_call 52; refine (resized_n 57 Try.f57 expandS expand_shape expand_good Try.func57 rfl rfl W H w_ h_ n cap A cs _ HP.out HH1.out HH2.out HNC.out (Kd.C_below HC.out B7.out) HCAP.out).mono ?_; rw [HES.out]; rintro e w8 ⟨v8, rfl, hR, hb⟩; have F8 := Aside0.mk (hR); have B8 := Aside0.mk (hb); obtain ⟨gf, cf, hv8, hgf, hlt, hty⟩ := Kd.R_form hR (show 0 < es.length by rw [HEL.out]; exact HNB.out.1); rw [HEL.out] at hv8; subst hv8; have GF := Aside0.mk (hgf); clear hR hb hgf hlt hty p0 p1 p2 q0 q1) | ((with_reducible refine gate_dst (N := 8) rfl ?_); refine box_event ?hg (N := 8) ?hd (cs := #[.int .i64 0, .int .i64 0, .slice none 0 0]) (t := 25) ?hr ?_; (case hd => rfl); (case hg => rfl); (case hr => first | (go_simp; done) | (go_simp; rfl)); intro gF hg_ w9 hm_ hb_; have F9 := Aside0.mk (Kd.R_below F8.out hb_); have D9 := Aside0.mk (hm_); have B9 := Aside0.mk (below_step B8.out hb_); have GFF := Aside0.mk (show wd.heap.size ≤ gF by rw [hg_]; exact below_size B8.out); clear hm_ hb_ hg_ F8 B8) | ((with_reducible refine gate_store (p := 8) rfl ?_); refine storeP_event rfl rfl rfl gF (w_ : Int) (h_ : Int) (some ⟨gf, 0, none⟩) m cf _ _ _ rfl rfl D9.out ?_; intro w10 hm_ hst_ hbl_; have M10 := Aside0.mk (show M3 wd gF w_ h_ gf m cf w10 es from ⟨Kd.R_mono (Kd.R_move (Kd.R_types F9.out D9.out (by decide)) (fun k hk => hst_ k hk.2)) (fun _ _ => trivial), hm_, B9.out.trans (hbl_ _ GFF.out)⟩); have d2 := (blk_cell M10.out.2.1 2).trans rfl; clear F9 D9 B9; clear hm_ hst_ hbl_))
 clear d2
 obtain ⟨ys0, hys0⟩ : ∃ ys0, es = ys0 := ⟨_, rfl⟩
 have HY0 : Aside0 (ys0 = zipTo addA fs es 0) := ⟨by rw [zipTo_zero]; exact hys0.symm⟩
 have M0 : Aside0 (M3 wd gF w_ h_ gf m cf w10 ys0) := ⟨by rw [← hys0]; exact M10.out⟩
 clear hys0 M10
 go_loopw [47] (fun iv wr => ∃ (i : Nat) (ys : List Nat), i ≤ m ∧ iv = .int .i64 (i : Int) ∧ Aside0 (ys = zipTo addA fs es i) ∧ Aside0 (M3 wd gF w_ h_ gf m cf wr ys)) (fun iv _ => m - (intOf iv).toNat)
 case atStart => exact ⟨0, ys0, Nat.zero_le _, rfl, HY0, M0⟩
 case round =>
  clear M0 HY0
  obtain ⟨i, ys, hi, rfl, HY, HM⟩ := hrel
  by_cases hlt : i < m
  ·have c1 : decide ((i : Int) < (m : Int)) = true := decide_eq_true (by omega)
   have i1 : ((i : Int) < (m : Int)) = True := eq_true (by omega)
   have hb1 := HNB.out.2
   have hiel : i < es.length := by rw [HEL.out]; exact hlt
   obtain ⟨b, hb⟩ : ∃ b, gt es i = b := ⟨_, rfl⟩
   obtain ⟨a, ha⟩ : ∃ a, gt fs i = a := ⟨_, rfl⟩
   have hyb : gt ys i = b := by rw [HY.out, gt_zipTo hiel, if_neg (by omega), hb]
   have HA : Aside0 (a < 4294967296) := ⟨by rw [← ha]; exact HXX.out i⟩
   have HB : Aside0 (b < 4294967296) := ⟨by rw [← hb]; exact HEX.out i⟩
   have z1 := (M3_cell HM.out i hlt).1
   rw [hyb] at z1
   obtain ⟨ad, hA, hx⟩ := C_nat (Kd.C_below HD_.out ((below_step B7.out HM.out.2.2))) i hlt
   subst hA
   rw [ha] at hx
   obtain ⟨kb, hkb⟩ : ∃ k, key b = k := ⟨_, rfl⟩
   have HKB := Aside0.mk hkb
   obtain ⟨s, hs⟩ : ∃ s, (kb + a) % 4294967296 = s := ⟨_, rfl⟩
   have HSL : Aside0 (s < 4294967296) := ⟨by rw [← hs]; exact Nat.mod_lt _ (by decide)⟩
   have e1 : IntKind.u32.wrap ((kb : Int) + (a : Int)) = (s : Int) := by rw [← hs]; simp only [IntKind.wrap_u32]; omega
   obtain ⟨d, hd⟩ : ∃ d, fromKey s = d := ⟨_, rfl⟩
   have HD := Aside0.mk hd
   have HYS : Aside0 (ys.set i d = zipTo addA fs es (i + 1)) := ⟨by rw [zipTo_succ _ _ _ hiel, ha, hb, HY.out]; unfold addA; rw [hkb, hs, hd]⟩
   have HLT := Aside0.mk hlt
   clear hb ha hyb hkb hd hs hiel
   go_upto_region 13 with (fail)
   have MM := Aside0.mk (M3_drew HM.out)
   have QQ := Aside0.mk (blk_below Q7.out MM.out.2.2)
   have XX : Aside0 (wr.drew.cell? (ad.add i) = some (.int .u32 (a : Int))) := ⟨hx⟩
   clear hx z1 HM
   have z1 := (M3_cell MM.out i HLT.out).1
   have zf := (M3_cell MM.out i HLT.out).2
   refine start_ (n := 14) (S := fun w' => w'.cell? ⟨gF, 2, none⟩ = some (.slice (some ⟨gf, 0, none⟩) m cf) ∧ w'.cell? ⟨gQ, 2, none⟩ = some (.slice (some ad) m dcap) ∧ w'.cell? (ad.add i) = some (.int .u32 (a : Int))) (ds := [13]) #[ff_,ff_,ff_,ff_,ff_,ff_,ff_,ff_,ff_,ff_,ff_,ff_,ff_,ff_] (by kernel_rfl) rfl rfl ⟨(blk_cell MM.out.2.1 2).trans rfl, (blk_cell QQ.out 2).trans rfl, XX.out⟩ (fun hHeld => ?_)
   generalize wr.drew = wx at *
   refine pure_ (i := 0) (N := some 52) (v := ?_) (a' := ?_) #[tt_,ff_,ff_,ff_,ff_,ff_,ff_,ff_,ff_,ff_,ff_,ff_,ff_,ff_] rfl rfl (by kernel_rfl) (fun _ _ _ h => h) (Or.inl ⟨by rfl, ?_⟩) ?_ ?_
   rotate_left
   ·intro w'
    go_simp
    with_reducible rfl
   rotate_left
   ·simp only [Act.put, List.setIfInBounds_toArray, List.set_cons_zero, List.set_cons_succ, i64_w, i32_w]
    rfl
   refine pure_ (i := 2) (N := some 54) (v := ?_) (a' := ?_) #[tt_,ff_,tt_,ff_,ff_,ff_,ff_,ff_,ff_,ff_,ff_,ff_,ff_,ff_] rfl rfl (by kernel_rfl) (fun _ _ _ h => h) (Or.inl ⟨by rfl, ?_⟩) ?_ ?_
   rotate_left
   ·intro w'
    go_simp
    with_reducible rfl
   rotate_left
   ·simp only [Act.put, List.setIfInBounds_toArray, List.set_cons_zero, List.set_cons_succ, i64_w, i32_w]
    rfl
   refine pure_ (i := 3) (N := some 55) (v := ?_) (a' := ?_) #[tt_,ff_,tt_,tt_,ff_,ff_,ff_,ff_,ff_,ff_,ff_,ff_,ff_,ff_] rfl rfl (by kernel_rfl) (fun _ _ _ h => h) (Or.inl ⟨by rfl, ?_⟩) ?_ ?_
   rotate_left
   ·intro w'
    go_simp
    with_reducible rfl
   rotate_left
   ·simp only [Act.put, List.setIfInBounds_toArray, List.set_cons_zero, List.set_cons_succ, i64_w, i32_w]
    rfl
   refine pure_ (i := 5) (N := some 57) (v := ?_) (a' := ?_) #[tt_,ff_,tt_,tt_,ff_,tt_,ff_,ff_,ff_,ff_,ff_,ff_,ff_,ff_] rfl rfl (by kernel_rfl) (fun _ _ _ h => h) (Or.inl ⟨by rfl, ?_⟩) ?_ ?_
   rotate_left
   ·intro w'
    go_simp
    with_reducible rfl
   rotate_left
   ·simp only [Act.put, List.setIfInBounds_toArray, List.set_cons_zero, List.set_cons_succ, i64_w, i32_w]
    rfl
   refine pure_ (i := 7) (N := some 59) (v := ?_) (a' := ?_) #[tt_,ff_,tt_,tt_,ff_,tt_,ff_,tt_,ff_,ff_,ff_,ff_,ff_,ff_] rfl rfl (by kernel_rfl) (fun _ _ _ h => h) (Or.inl ⟨by rfl, ?_⟩) ?_ ?_
   rotate_left
   ·intro w'
    go_simp
    with_reducible rfl
   rotate_left
   ·simp only [Act.put, List.setIfInBounds_toArray, List.set_cons_zero, List.set_cons_succ, i64_w, i32_w]
    rfl
   refine take_ (i := 1) (N := some 53) (v := ?_) (a' := ?_) #[tt_,tt_,tt_,tt_,ff_,tt_,ff_,tt_,ff_,ff_,ff_,ff_,ff_,ff_] rfl rfl (by kernel_rfl) (fun _ _ _ h => h) (Or.inl ⟨by rfl, ?_⟩) hHeld ?_ ?_
   rotate_left
   ·rintro w' ⟨s0, s1, s2⟩
    go_simp
    with_reducible rfl
   rotate_left
   ·simp only [Act.put, List.setIfInBounds_toArray, List.set_cons_zero, List.set_cons_succ, i64_w, i32_w]
    rfl
   refine take_ (i := 6) (N := some 58) (v := ?_) (a' := ?_) #[tt_,tt_,tt_,tt_,ff_,tt_,tt_,tt_,ff_,ff_,ff_,ff_,ff_,ff_] rfl rfl (by kernel_rfl) (fun _ _ _ h => h) (Or.inl ⟨by rfl, ?_⟩) hHeld ?_ ?_
   rotate_left
   ·rintro w' ⟨s0, s1, s2⟩
    go_simp
    with_reducible rfl
   rotate_left
   ·simp only [Act.put, List.setIfInBounds_toArray, List.set_cons_zero, List.set_cons_succ, i64_w, i32_w]
    rfl
   refine pure_ (i := 8) (N := some 60) (v := ?_) (a' := ?_) #[tt_,tt_,tt_,tt_,ff_,tt_,tt_,tt_,tt_,ff_,ff_,ff_,ff_,ff_] rfl rfl (by kernel_rfl) (fun _ _ _ h => h) (Or.inl ⟨by rfl, ?_⟩) ?_ ?_
   rotate_left
   ·intro w'
    go_simp
    with_reducible rfl
   rotate_left
   ·simp only [Act.put, List.setIfInBounds_toArray, List.set_cons_zero, List.set_cons_succ, i64_w, i32_w]
    rfl
   refine take_ (i := 9) (N := some 61) (v := ?_) (a' := ?_) #[tt_,tt_,tt_,tt_,ff_,tt_,tt_,tt_,tt_,tt_,ff_,ff_,ff_,ff_] rfl rfl (by kernel_rfl) (fun _ _ _ h => h) (Or.inl ⟨by rfl, ?_⟩) hHeld ?_ ?_
   rotate_left
   ·rintro w' ⟨s0, s1, s2⟩
    go_simp
    with_reducible rfl
   rotate_left
   ·simp only [Act.put, List.setIfInBounds_toArray, List.set_cons_zero, List.set_cons_succ, i64_w, i32_w]
    rfl
   refine one_ (i := 4) (N := some 56) #[tt_,tt_,tt_,tt_,tt_,tt_,tt_,tt_,tt_,tt_,ff_,ff_,ff_,ff_] rfl rfl (by kernel_rfl) (by decide) (fun K hK => ?_)
   refine goes_ Try.func62 (by kernel_rfl) rfl #[.int .u32 (b : Int)] (by rfl) rfl rfl (by (try simp only [List.map_toArray, List.map_cons, List.map_nil]); rfl) ?_
   with_reducible refine (Key_calls b _ HB.out).mono ?_
   rw [HKB.out]
   rintro e _ ⟨rfl, rfl⟩
   refine ⟨_, rfl, ?_⟩
   refine hK.out _ _ ⟨(blk_cell MM.out.2.1 2).trans rfl, (blk_cell QQ.out 2).trans rfl, XX.out⟩ (fun hHeld => ?_)
   clear hK K
   refine norm_ (a' := ?_) ?_ ?_
   rotate_left
   ·show Act.put _ (some 56) _ = _
    simp only [Act.put, List.setIfInBounds_toArray, List.set_cons_zero, List.set_cons_succ, i64_w, i32_w]
    rfl
   refine pure_ (i := 10) (N := some 62) (v := ?_) (a' := ?_) #[tt_,tt_,tt_,tt_,tt_,tt_,tt_,tt_,tt_,tt_,tt_,ff_,ff_,ff_] rfl rfl (by kernel_rfl) (fun _ _ _ h => h) (Or.inl ⟨by rfl, ?_⟩) ?_ ?_
   rotate_left
   ·intro w'
    go_simp
    with_reducible rfl
   rotate_left
   ·simp only [Act.put, List.setIfInBounds_toArray, List.set_cons_zero, List.set_cons_succ, i64_w, i32_w]
    rfl
   refine one_ (i := 11) (N := some 63) #[tt_,tt_,tt_,tt_,tt_,tt_,tt_,tt_,tt_,tt_,tt_,tt_,ff_,ff_] rfl rfl (by kernel_rfl) (by decide) (fun K hK => ?_)
   refine goes_ Try.func66 (by kernel_rfl) rfl #[.int .u32 (s : Int)] (by rfl) rfl rfl (by (try simp only [List.map_toArray, List.map_cons, List.map_nil]); rfl) ?_
   with_reducible refine (FromKey_calls s _ HSL.out).mono ?_
   rw [HD.out]
   rintro e _ ⟨rfl, rfl⟩
   refine ⟨_, rfl, ?_⟩
   refine hK.out _ _ ⟨(blk_cell MM.out.2.1 2).trans rfl, (blk_cell QQ.out 2).trans rfl, XX.out⟩ (fun hHeld => ?_)
   clear hK K
   refine norm_ (a' := ?_) ?_ ?_
   rotate_left
   ·show Act.put _ (some 63) _ = _
    simp only [Act.put, List.setIfInBounds_toArray, List.set_cons_zero, List.set_cons_succ, i64_w, i32_w]
    rfl
   refine pure_ (i := 12) (N := some 64) (v := ?_) (a' := ?_) #[tt_,tt_,tt_,tt_,tt_,tt_,tt_,tt_,tt_,tt_,tt_,tt_,tt_,ff_] rfl rfl (by kernel_rfl) (fun _ _ _ h => h) (Or.inl ⟨by rfl, ?_⟩) ?_ ?_
   rotate_left
   ·intro w'
    go_simp
    with_reducible rfl
   rotate_left
   ·simp only [Act.put, List.setIfInBounds_toArray, List.set_cons_zero, List.set_cons_succ, i64_w, i32_w]
    rfl
   refine last_ (i := 13) (N := none) #[tt_,tt_,tt_,tt_,tt_,tt_,tt_,tt_,tt_,tt_,tt_,tt_,tt_,tt_] rfl rfl (by kernel_rfl) (by decide) (fun K hK => ?_)
   refine skip_ (w1 := ?_) (by rfl) rfl ?_ ?_
   rotate_left
   ·go_simp
    rfl
   refine hK.out _ _ ?_
   clear hK K
   refine done_ (by kernel_rfl) ?_
   have MN := Aside0.mk (M3_put MM.out i d GF.out)
   generalize wx.setCell ⟨gf, i, none⟩ (.int .u32 (d : Int)) = wn at *
   clear z1 zf QQ XX MM
   go_wp2
   go_roundw
   case measure => simp [intOf]; omega
   case rel => exact ⟨i + 1, ys.set i d, by omega, by go_num, HYS, MN⟩
  ·obtain rfl : m = i := by omega
   have c1 : decide ((m : Int) < (m : Int)) = false := decide_eq_false (by omega)
   have RR := Aside0.mk (blk_below R7.out HM.out.2.2)
   have UU : Aside0 ((nat .u32).R 50 wr wd.heap.size (fun _ => True) (.slice (some ⟨gf, 0, none⟩) m cf) ys) := ⟨HM.out.1⟩
   have BB := Aside0.mk (below_step B7.out HM.out.2.2)
   have d0 := (blk_cell HM.out.2.1 0).trans rfl
   have d1 := (blk_cell HM.out.2.1 1).trans rfl
   have d2 := (blk_cell HM.out.2.1 2).trans rfl
   clear HM
   go_wp2_with (((with_reducible refine gate_store (p := 4) rfl ?_); refine storeP_event rfl rfl rfl gR (w_ : Int) (h_ : Int) (some ⟨gf, 0, none⟩) m cf _ _ _ rfl rfl RR.out ?_; intro w12 hm_ hst_ hbl_; have R12 := Aside0.mk (hm_); have B12 := Aside0.mk (BB.out.trans (hbl_ _ GR.out)); have U12 := Aside0.mk (Kd.R_mono (Kd.R_move (Kd.R_types UU.out RR.out (by decide)) (fun k hk => hst_ k hk.2)) (fun _ _ => trivial)); clear hm_ hst_ hbl_))
   refine bodyPost_ret (results_ct rfl _ _ gR 25 #[.int .i64 (w_ : Int), .int .i64 (h_ : Int), .slice (some ⟨gf, 0, none⟩) m cf] (0, 0) _ rfl R12.out Try.underlying25 rfl (by kernel_rfl)) rfl ?_
   exact ⟨_, rfl, by rw [← HY.out]; exact Kd.R_lower U12.out B7.out.size, B12.out⟩
end Go.Proofs.Ytodlgdpkadkjjaa.A
end
section
set_option linter.unusedVariables false
set_option linter.unusedSimpArgs false
namespace Go.Proofs.Ytodlgdpkadkjjaa.A
open Go.RowKit Go.Shelf Go.Proofs.YtodlgdpkadkjjaaW.PrintWords Go.Proofs.YtodlgdpkadkjjaaW.PrintLast Go.Proofs.YtodlgdpkadkjjaaW.PrintMore Go.Proofs.Ytodlgdpkadkjjaa.PPyramidLevels

/-- a row of samples that is read -/
def PL (w : World) (A : Option Addr) (n c : Nat) (xs : List Nat) : Prop := (nat .u32).C w A n xs ∧ n ≤ c ∧ xs.length = n
theorem PL.below {w w' : World} {A : Option Addr} {n c : Nat} {xs : List Nat} (h : PL w A n c xs) (hb : Below w.heap.size w w') : PL w' A n c xs := ⟨Kd.C_below h.1 hb, h.2.1, h.2.2⟩
theorem PL.of {w : World} {B : Nat} {ok : Nat → Prop} {v : Value} {xs : List Nat} (h : (nat .u32).R 50 w B ok v xs) : ∃ A n c, v = .slice A n c ∧ PL w A n c xs := by
 obtain ⟨A, c, rfl, h1, h2⟩ := Kd.R_reads h
 exact ⟨A, _, c, rfl, h2, h1, rfl⟩
theorem C_new {k : IntKind} {w : World} {g : Nat} {cells : Array Value} {e : TypeId} (xs : List Nat) (hb : w.heap[g]? = some (.cells cells e (0, 0))) (hc : cells = (xs.map (fun x : Nat => Value.int k x)).toArray) (hl : xs.length ≤ 9223372036854775807) : (nat k).C w (some ⟨g, 0, none⟩) xs.length xs := by
 refine Kd.C_of_reads (d := 0) ⟨rfl, hl, fun hp => ⟨_, rfl, fun j hj => ?_⟩⟩
 rw [add_plain, blk_cell hb j, hc]
 simp [List.getElem?_eq_getElem hj]
theorem PL.new (w : World) (xs : List Nat) {cells : Array Value} {e : TypeId} (hc : cells = (xs.map (fun x : Nat => Value.int .u32 x)).toArray) (hl : xs.length ≤ 9223372036854775807) : PL (w.alloc (.cells cells e (0, 0))) (some ⟨w.heap.size, 0, none⟩) xs.length xs.length xs :=
 ⟨C_new xs (blk_new _ _) hc hl, Nat.le_refl _, rfl⟩
section
variable {ops : Array Oper} {Q : Exit → Act → World → Prop} {o : Oper} {rest : List Oper} {a : Act}
/-- a plane is loaded out of its box -/
theorem loadP_event {W : World} {p : Operand} (ho : o.op = .load 25 p) (hgd : o.guard = none) (g : Nat) (x y z : Value) (hp : a.eval p = .pointer (some ⟨g, 0, none⟩)) (hg : W.heap[g]? = some (.cells #[x, y, z] 25 (0, 0)))
    (h : wpList Try.prog ops Q rest (a.put o.dst (.agg #[x, y, z])) W) : wpList Try.prog ops Q (o :: rest) a W := by
 have hu25 := Try.underlying25
 have p0 := (blk_cell hg 0).trans rfl
 have p1 := (blk_cell hg 1).trans rfl
 have p2 := (blk_cell hg 2).trans rfl
 refine same_event hgd (.agg #[x, y, z]) ?_ h
 unfold execOp
 simp only [ho, hp]
 go_simp
end
theorem num_calls (n : Int) (w : World) : Calls Try.prog 17 #[.int .i64 n] w fun e w' => e = .returned (.int .i64 n) ∧ w = w' := by
 go_enter Try.func17, Try.ntmps17
 go_wp2
 go_ret
 exact ⟨rfl, rfl⟩
set_option maxHeartbeats 1000000 in
theorem row_calls (A : Option Addr) (n c : Nat) (w : World) : Calls Try.prog 42 #[.slice A n c] w fun e w' => e = .returned (.agg #[.int .i64 (n : Int), .int .i64 1, .slice A n c]) ∧ Below w.heap.size w w' := by
 have hu25 := Try.underlying25
 go_enter Try.func42, Try.ntmps42
 go_wp2_with (first | ((with_reducible refine gate_dst (N := 2) rfl ?_); refine box_event ?hg (N := 2) ?hd (cs := #[.int .i64 0, .int .i64 0, .slice none 0 0]) (t := 25) ?hr ?_; (case hd => rfl); (case hg => rfl); (case hr => first | (go_simp; done) | (go_simp; rfl)); intro gR hg_ w1 hm_ hb_; have R1 := Aside0.mk (hm_); have B1 := Aside0.mk (hb_); have GR := Aside0.mk (show w.heap.size ≤ gR by rw [hg_]; exact Nat.le_refl _); clear hm_ hb_ hg_) | ((with_reducible refine gate_store (p := 2) rfl ?_); refine storeP_event rfl rfl rfl gR (n : Int) 1 A n c _ _ _ rfl rfl R1.out ?_; intro w2 hm_ hst_ hbl_; have R2 := Aside0.mk (hm_); have B2 := Aside0.mk (B1.out.trans (hbl_ _ GR.out)); clear hm_ hst_ hbl_))
 refine bodyPost_ret (results_cell_row rfl _ _ gR 25 #[.int .i64 (n : Int), .int .i64 1, .slice A n c] (0, 0) _ rfl R2.out Try.underlying25 rfl (by kernel_rfl)) rfl ?_
 exact ⟨rfl, B2.out⟩
/-- a row of 1, 2, 4 -/
theorem row1_calls (A : Option Addr) (c : Nat) (w : World) : Calls Try.prog 42 #[.slice A 1 c] w fun e w' => e = .returned (.agg #[.int .i64 1, .int .i64 1, .slice A 1 c]) ∧ Below w.heap.size w w' := row_calls A 1 c w
theorem row2_calls (A : Option Addr) (c : Nat) (w : World) : Calls Try.prog 42 #[.slice A 2 c] w fun e w' => e = .returned (.agg #[.int .i64 2, .int .i64 1, .slice A 2 c]) ∧ Below w.heap.size w w' := row_calls A 2 c w
theorem row4_calls (A : Option Addr) (c : Nat) (w : World) : Calls Try.prog 42 #[.slice A 4 c] w fun e w' => e = .returned (.agg #[.int .i64 4, .int .i64 1, .slice A 4 c]) ∧ Below w.heap.size w w' := row_calls A 4 c w
section
variable {W H n c : Nat} {A : Option Addr} {xs : List Nat} {w : World}
theorem ReduceL (hp : (Pl.mk W H xs).ok) (h : PL w A n c xs) : Calls Try.prog 16 #[.agg #[.int .i64 (W : Int), .int .i64 (H : Int), .slice A n c]] w fun e w' => ∃ A' n' c', e = .returned (.tuple #[.agg #[.int .i64 ((hf W : Nat) : Int), .int .i64 ((hf H : Nat) : Int), .slice A' n' c'], .int .i64 0]) ∧ PL w' A' n' c' (redS W H xs) ∧ Below w.heap.size w w' := by
 refine (Reduce_ok W H xs A n c w hp h.2.2 h.1 h.2.1).mono ?_
 rintro e w' ⟨v, rfl, hR, hb⟩
 obtain ⟨A', n', c', rfl, hL⟩ := PL.of hR
 exact ⟨A', n', c', rfl, hL, hb⟩
theorem ExpandL {wn hn : Nat} (hp : (Pl.mk W H xs).ok) (h : PL w A n c xs) (hs : 0 < wn ∧ 0 < hn ∧ wn ≤ 1024 ∧ hn ≤ 1024 ∧ wn * hn ≤ 65536) (hW : hf wn = W) (hH : hf hn = H) : Calls Try.prog 20 #[.agg #[.int .i64 (W : Int), .int .i64 (H : Int), .slice A n c], .int .i64 (wn : Int), .int .i64 (hn : Int)] w fun e w' => ∃ A' n' c', e = .returned (.tuple #[.agg #[.int .i64 (wn : Int), .int .i64 (hn : Int), .slice A' n' c'], .int .i64 0]) ∧ PL w' A' n' c' (expS W H wn hn xs) ∧ Below w.heap.size w w' := by
 refine (Expand_ok W H xs A n c wn hn w hp h.2.2 hs hW hH h.1 h.2.1).mono ?_
 rintro e w' ⟨v, rfl, hR, hb⟩
 obtain ⟨A', n', c', rfl, hL⟩ := PL.of hR
 exact ⟨A', n', c', rfl, hL, hb⟩
theorem SplitL (hp : (Pl.mk W H xs).ok) (h : PL w A n c xs) : Calls Try.prog 25 #[.agg #[.int .i64 (W : Int), .int .i64 (H : Int), .slice A n c]] w fun e w' => ∃ A' n' c' A2 n2 c2, e = .returned (.tuple #[.agg #[.int .i64 ((hf W : Nat) : Int), .int .i64 ((hf H : Nat) : Int), .slice A' n' c'], .agg #[.int .i64 (W : Int), .int .i64 (H : Int), .slice A2 n2 c2], .int .i64 0]) ∧ PL w' A' n' c' (redS W H xs) ∧ PL w' A2 n2 c2 (finS W H xs) ∧ Below w.heap.size w w' := by
 refine (Split_ok W H xs A n c w hp h.2.2 h.1 h.2.1).mono ?_
 rintro e w' ⟨v, u, B, rfl, hB, hR, hR2, hb⟩
 obtain ⟨A', n', c', rfl, hL⟩ := PL.of hR
 obtain ⟨A2, n2, c2, rfl, hL2⟩ := PL.of hR2
 exact ⟨A', n', c', A2, n2, c2, rfl, hL, hL2, hb⟩
/-- the same plane? -/
theorem sameL {W2 H2 n2 c2 : Nat} {A2 : Option Addr} {ys : List Nat} (h : PL w A n c xs) (h2 : PL w A2 n2 c2 ys) (hl : n < 4611686018427387904) :
    Calls Try.prog 18 #[.agg #[.int .i64 (W : Int), .int .i64 (H : Int), .slice A n c], .agg #[.int .i64 (W2 : Int), .int .i64 (H2 : Int), .slice A2 n2 c2]] w fun e w' => e = .returned (.bool (decide (W = W2 ∧ H = H2 ∧ xs = ys))) ∧ Below w.heap.size w w' := by
 obtain ⟨h1, h3, rfl⟩ := h
 obtain ⟨h4, h5, rfl⟩ := h2
 exact plane_nat A A2 c c2 W H W2 H2 xs ys w h1 h4 h3 h5 hl
end
theorem gt_lt_all {l : List Nat} {m : Nat} (hm : 0 < m) (h : l.all (· < m) = true) : ∀ i, gt l i < m := by
 intro i
 unfold gt
 rw [List.getD_eq_getElem?_getD]
 by_cases hi : i < l.length
 ·rw [List.getElem?_eq_getElem hi]
  have := (List.all_eq_true.mp h) _ (List.getElem_mem hi)
  simpa using this
 ·rw [List.getElem?_eq_none (by omega)]; exact hm
theorem kn1 : redS 4 1 [1065353216, 1073741824, 1082130432, 1090519040] = [1069023232, 1083310080] := by decide +kernel
theorem kn2 : expS 2 1 4 1 [1065353216, 1077936128] = [1067450368, 1073741824, 1076887552, 1077936128] := by decide +kernel
theorem kn3 : redS 1 1 [4294967295] = [2143289344] := by decide +kernel
theorem kn4 : finS 1 1 [4294967295] = [4194304] := by decide +kernel
theorem kp1 : (Pl.mk 4 1 [1065353216, 1073741824, 1082130432, 1090519040]).ok := ⟨by decide, by decide, by decide, by decide, by decide, rfl, gt_lt_all (by decide) (by decide)⟩
theorem kp2 : (Pl.mk 2 1 [1065353216, 1077936128]).ok := ⟨by decide, by decide, by decide, by decide, by decide, rfl, gt_lt_all (by decide) (by decide)⟩
theorem kp3 : (Pl.mk 1 1 [4294967295]).ok := ⟨by decide, by decide, by decide, by decide, by decide, rfl, gt_lt_all (by decide) (by decide)⟩
theorem Red_k {w : World} {A : Option Addr} {c : Nat} (h : PL w A 4 c [1065353216, 1073741824, 1082130432, 1090519040]) : Calls Try.prog 16 #[.agg #[.int .i64 4, .int .i64 1, .slice A 4 c]] w fun e w' => ∃ A' c', e = .returned (.tuple #[.agg #[.int .i64 2, .int .i64 1, .slice A' 2 c'], .int .i64 0]) ∧ PL w' A' 2 c' [1069023232, 1083310080] ∧ Below w.heap.size w w' := by
 refine (ReduceL kp1 h).mono ?_
 rintro e w' ⟨A', n', c', rfl, hL, hb⟩
 rw [kn1] at hL
 obtain rfl : 2 = n' := hL.2.2
 exact ⟨A', c', rfl, hL, hb⟩
theorem Exp_k {w : World} {A : Option Addr} {c : Nat} (h : PL w A 2 c [1065353216, 1077936128]) : Calls Try.prog 20 #[.agg #[.int .i64 2, .int .i64 1, .slice A 2 c], .int .i64 4, .int .i64 1] w fun e w' => ∃ A' c', e = .returned (.tuple #[.agg #[.int .i64 4, .int .i64 1, .slice A' 4 c'], .int .i64 0]) ∧ PL w' A' 4 c' [1067450368, 1073741824, 1076887552, 1077936128] ∧ Below w.heap.size w w' := by
 refine (ExpandL (wn := 4) (hn := 1) kp2 h (by decide) rfl rfl).mono ?_
 rintro e w' ⟨A', n', c', rfl, hL, hb⟩
 rw [kn2] at hL
 obtain rfl : 4 = n' := hL.2.2
 exact ⟨A', c', rfl, hL, hb⟩
theorem Spl_k {w : World} {A : Option Addr} {c : Nat} (h : PL w A 1 c [4294967295]) : Calls Try.prog 25 #[.agg #[.int .i64 1, .int .i64 1, .slice A 1 c]] w fun e w' => ∃ A' c' A2 c2, e = .returned (.tuple #[.agg #[.int .i64 1, .int .i64 1, .slice A' 1 c'], .agg #[.int .i64 1, .int .i64 1, .slice A2 1 c2], .int .i64 0]) ∧ PL w' A' 1 c' [2143289344] ∧ PL w' A2 1 c2 [4194304] ∧ Below w.heap.size w w' := by
 refine (SplitL kp3 h).mono ?_
 rintro e w' ⟨A', n', c', A2, n2, c2, rfl, hL, hL2, hb⟩
 rw [kn3] at hL
 rw [kn4] at hL2
 obtain rfl : 1 = n' := hL.2.2
 obtain rfl : 1 = n2 := hL2.2.2
 exact ⟨A', c', A2, c2, rfl, hL, hL2, hb⟩
theorem same_k {w : World} {x y : Nat} {A A2 : Option Addr} {n c c2 : Nat} {xs : List Nat} (h : PL w A n c xs) (h2 : PL w A2 n c2 xs) (hl : n < 100) :
    Calls Try.prog 18 #[.agg #[.int .i64 (x : Int), .int .i64 (y : Int), .slice A n c], .agg #[.int .i64 (x : Int), .int .i64 (y : Int), .slice A2 n c2]] w fun e w' => e = .returned (.bool true) ∧ Below w.heap.size w w' := by
 refine (sameL h h2 (by omega)).mono ?_
 rw [decide_eq_true ⟨rfl, rfl, rfl⟩]
 exact fun _ _ h => h
theorem same1_k {w : World} {A A2 : Option Addr} {c c2 : Nat} {xs : List Nat} (h : PL w A 1 c xs) (h2 : PL w A2 1 c2 xs) : Calls Try.prog 18 #[.agg #[.int .i64 1, .int .i64 1, .slice A 1 c], .agg #[.int .i64 1, .int .i64 1, .slice A2 1 c2]] w fun e w' => e = .returned (.bool true) ∧ Below w.heap.size w w' := same_k (x := 1) (y := 1) h h2 (by decide)
theorem same2_k {w : World} {A A2 : Option Addr} {c c2 : Nat} {xs : List Nat} (h : PL w A 2 c xs) (h2 : PL w A2 2 c2 xs) : Calls Try.prog 18 #[.agg #[.int .i64 2, .int .i64 1, .slice A 2 c], .agg #[.int .i64 2, .int .i64 1, .slice A2 2 c2]] w fun e w' => e = .returned (.bool true) ∧ Below w.heap.size w w' := same_k (x := 2) (y := 1) h h2 (by decide)
theorem same4_k {w : World} {A A2 : Option Addr} {c c2 : Nat} {xs : List Nat} (h : PL w A 4 c xs) (h2 : PL w A2 4 c2 xs) : Calls Try.prog 18 #[.agg #[.int .i64 4, .int .i64 1, .slice A 4 c], .agg #[.int .i64 4, .int .i64 1, .slice A2 4 c2]] w fun e w' => e = .returned (.bool true) ∧ Below w.heap.size w w' := same_k (x := 4) (y := 1) h h2 (by decide)
end Go.Proofs.Ytodlgdpkadkjjaa.A
end
section
set_option linter.unusedVariables false
set_option linter.unusedSimpArgs false
namespace Go.Proofs.Ytodlgdpkadkjjaa.A
open Go.RowKit Go.Shelf Go.Proofs.YtodlgdpkadkjjaaW.PrintWords Go.Proofs.YtodlgdpkadkjjaaW.PrintLast Go.Proofs.YtodlgdpkadkjjaaW.PrintMore Go.Proofs.Ytodlgdpkadkjjaa.PPyramidLevels
section
variable {P : Program} {ops : Array Oper} {Q : Exit → Act → World → Prop} {o : Oper} {rest : List Oper} {a : Act}
/-- a literal row of samples -/
theorem lit_event {W : World} (hgd : o.guard = none) {N : Tmp} (_hN : o.dst = some N) (xs : List Nat) (hl : xs.length ≤ 1000)
    (hrun : (execOp a.eval o).run P W = .ok (.value (.slice (some ⟨W.heap.size, 0, none⟩) xs.length xs.length)) (W.alloc (.cells (xs.map (fun x : Nat => Value.int .u32 x)).toArray 50 (0, 0))))
    (h : ∀ g w1, PL w1 (some ⟨g, 0, none⟩) xs.length xs.length xs → Below W.heap.size W w1 → wpList P ops Q rest (a.put o.dst (.slice (some ⟨g, 0, none⟩) xs.length xs.length)) w1) : wpList P ops Q (o :: rest) a W :=
 Kd.event_run hgd hrun (h _ _ ⟨Kd.C_of_reads (d := 0) ⟨rfl, by omega, fun hp => ⟨_, rfl, fun j hj => by rw [add_plain, blk_cell (blk_new W _) j]; simp [List.getElem?_eq_getElem hj]⟩⟩, Nat.le_refl _, rfl⟩ (below_alloc (Below.refl _ _) _))
variable {w : World} {K : Act → World → Prop} {N : Option Tmp}
theorem lit_step (hw : Region.wanted o (yielded ops a.tmps) = true) (hN : o.dst = N) (xs : List Nat) (hl : xs.length ≤ 1000)
    (hrun : (execOp a.eval o).run P w = .ok (.value (.slice (some ⟨w.heap.size, 0, none⟩) xs.length xs.length)) (w.alloc (.cells (xs.map (fun x : Nat => Value.int .u32 x)).toArray 50 (0, 0))))
    (h : ∀ g w1, PL w1 (some ⟨g, 0, none⟩) xs.length xs.length xs → Below w.heap.size w w1 → K (a.put N (.slice (some ⟨g, 0, none⟩) xs.length xs.length)) w1) : if Region.wanted o (yielded ops a.tmps) = true then Oper.wp P o a w K Q else K (a.put N undef) w :=
 value_ hw hN hrun (h _ _ (PL.new w xs rfl (by omega)) (below_alloc (Below.refl _ _) _))
end
set_option maxHeartbeats 8000000 in
set_option maxRecDepth 100000 in
theorem known_calls (w : World) : Calls Try.prog 12 #[] w fun e w' => e = .returned (.bool true) ∧ Below w.heap.size w w' := by
 have hu25 := Try.underlying25
 have B_0 : Aside0 (Below w.heap.size w w) := ⟨Below.refl _ _⟩
 go_enter Try.func12, Try.ntmps12
 go_upto_region 4 with (first | ((with_reducible refine gate_store (p := 6) rfl ?_); refine storeP_event rfl rfl rfl g6 1 1 Au 1 cu _ _ _ rfl rfl ZU.out ?_; intro w12 hm_ hst_ hbl_; have BL11_4 := Aside0.mk (BL11_3.out.trans (hbl_ _ GGU.out)); have ZU_ := Aside0.mk hm_; have ZS_ := Aside0.mk ((hst_ g5 NESU.out).trans ZS_.out); have B_12 := Aside0.mk (below_step B_11.out BL11_4.out); have DR_12 := Aside0.mk (blk_below DR_11.out BL11_4.out); have DE_12 := Aside0.mk (blk_below DE_11.out BL11_4.out); have La_12 := Aside0.mk (La_11.out.below BL11_4.out); have Lr_12 := Aside0.mk (Lr_11.out.below BL11_4.out); have Lb_12 := Aside0.mk (Lb_11.out.below BL11_4.out); have Le_12 := Aside0.mk (Le_11.out.below BL11_4.out); have Lc_12 := Aside0.mk (Lc_11.out.below BL11_4.out); have Ls_12 := Aside0.mk (Ls_11.out.below BL11_4.out); have Lu_12 := Aside0.mk (Lu_11.out.below BL11_4.out); clear DR_11 DE_11 La_11 Lr_11 Lb_11 Le_11 Lc_11 Ls_11 Lu_11; have DS_12 := Aside0.mk (ZS_.out); have DU_12 := Aside0.mk (ZU_.out); clear ZS_ ZS ZU_ ZU BL11_1 BL11_2 BL11_3 BL11_4; clear hm_ hst_ hbl_) | ((with_reducible refine gate_store (p := 5) rfl ?_); refine storeP_event rfl rfl rfl g5 1 1 As 1 cs _ _ _ rfl rfl ZS.out ?_; intro w11_3 hm_ hst_ hbl_; have BL11_3 := Aside0.mk (BL11_2.out.trans (hbl_ _ GGS.out)); have ZS_ := Aside0.mk hm_; have ZU := Aside0.mk ((hst_ g6 NESU.out.symm).trans ZU.out); clear hm_ hst_ hbl_) | ((with_reducible refine gate_dst (N := 6) rfl ?_); refine box_event ?hg (N := 6) ?hd (cs := #[.int .i64 0, .int .i64 0, .slice none 0 0]) (t := 25) ?hr ?_; (case hd => rfl); (case hg => rfl); (case hr => first | (go_simp; done) | (go_simp; rfl)); intro g6 hg_ w11_2 hm_ hb_; have BL11_2 := Aside0.mk (BL11_1.out.trans (hb_.mono BL11_1.out.size)); have ZU := Aside0.mk (hm_); have GGU := Aside0.mk (show w11.heap.size ≤ g6 by rw [hg_]; exact BL11_1.out.size); have NESU := Aside0.mk (show g5 ≠ g6 by rw [hg_]; have := blk_lt ZS.out; omega); have ZS := Aside0.mk (blk_below ZS.out hb_); clear hm_ hb_ hg_) | ((with_reducible refine gate_dst (N := 5) rfl ?_); refine box_event ?hg (N := 5) ?hd (cs := #[.int .i64 0, .int .i64 0, .slice none 0 0]) (t := 25) ?hr ?_; (case hd => rfl); (case hg => rfl); (case hr => first | (go_simp; done) | (go_simp; rfl)); intro g5 hg_ w11_1 hm_ hb_; have BL11_1 := Aside0.mk (hb_); have ZS := Aside0.mk (hm_); have GGS := Aside0.mk (show w11.heap.size ≤ g5 by rw [hg_]; exact Nat.le_refl _); clear hm_ hb_ hg_) | (go_at_call 25; have hkey := B_10; clear hkey; refine (Spl_k Lc_10.out).mono ?_; rintro e w11 ⟨As, cs, Au, cu, rfl, hL, hL2, hb⟩; have B_11 := Aside0.mk (below_step B_10.out hb); have DR_11 := Aside0.mk (blk_below DR_10.out hb); have DE_11 := Aside0.mk (blk_below DE_10.out hb); have La_11 := Aside0.mk (La_10.out.below hb); have Lr_11 := Aside0.mk (Lr_10.out.below hb); have Lb_11 := Aside0.mk (Lb_10.out.below hb); have Le_11 := Aside0.mk (Le_10.out.below hb); have Lc_11 := Aside0.mk (Lc_10.out.below hb); clear DR_10 DE_10 La_10 Lr_10 Lb_10 Le_10 Lc_10; have Ls_11 := Aside0.mk (hL); have Lu_11 := Aside0.mk (hL2); clear hb hL hL2) | (go_at_call 42; have hkey := B_9; clear hkey; refine (row1_calls (some ⟨gc, 0, none⟩) 1 _).mono ?_; rintro e w10 ⟨rfl, hb⟩; have B_10 := Aside0.mk (below_step B_9.out hb); have DR_10 := Aside0.mk (blk_below DR_9.out hb); have DE_10 := Aside0.mk (blk_below DE_9.out hb); have La_10 := Aside0.mk (La_9.out.below hb); have Lr_10 := Aside0.mk (Lr_9.out.below hb); have Lb_10 := Aside0.mk (Lb_9.out.below hb); have Le_10 := Aside0.mk (Le_9.out.below hb); have Lc_10 := Aside0.mk (Lc_9.out.below hb); clear DR_9 DE_9 La_9 Lr_9 Lb_9 Le_9 Lc_9; clear hb) | ((with_reducible refine gate_dst (N := 21) rfl ?_); refine lit_event rfl (N := 21) rfl [4294967295] ?hl ?hr ?_; (case hl => decide); (case hr => first | (go_simp; done) | (go_simp; rfl)); intro gc w9 hl_ hb; have B_9 := Aside0.mk (below_step B_8.out hb); have DR_9 := Aside0.mk (blk_below DR_8.out hb); have DE_9 := Aside0.mk (blk_below DE_8.out hb); have La_9 := Aside0.mk (La_8.out.below hb); have Lr_9 := Aside0.mk (Lr_8.out.below hb); have Lb_9 := Aside0.mk (Lb_8.out.below hb); have Le_9 := Aside0.mk (Le_8.out.below hb); clear DR_8 DE_8 La_8 Lr_8 Lb_8 Le_8; have Lc_9 := Aside0.mk (hl_); clear hb hl_) | ((with_reducible refine gate_store (p := 3) rfl ?_); refine storeP_event rfl rfl rfl g3 4 1 Ae 4 ce _ _ _ rfl rfl ZE.out ?_; intro w8 hm_ hst_ hbl_; have BL7_2 := Aside0.mk (BL7_1.out.trans (hbl_ _ GGE.out)); have ZE_ := Aside0.mk hm_; have B_8 := Aside0.mk (below_step B_7.out BL7_2.out); have DR_8 := Aside0.mk (blk_below DR_7.out BL7_2.out); have La_8 := Aside0.mk (La_7.out.below BL7_2.out); have Lr_8 := Aside0.mk (Lr_7.out.below BL7_2.out); have Lb_8 := Aside0.mk (Lb_7.out.below BL7_2.out); have Le_8 := Aside0.mk (Le_7.out.below BL7_2.out); clear DR_7 La_7 Lr_7 Lb_7 Le_7; have DE_8 := Aside0.mk (ZE_.out); clear ZE_ ZE BL7_1 BL7_2; clear hm_ hst_ hbl_) | ((with_reducible refine gate_dst (N := 3) rfl ?_); refine box_event ?hg (N := 3) ?hd (cs := #[.int .i64 0, .int .i64 0, .slice none 0 0]) (t := 25) ?hr ?_; (case hd => rfl); (case hg => rfl); (case hr => first | (go_simp; done) | (go_simp; rfl)); intro g3 hg_ w7_1 hm_ hb_; have BL7_1 := Aside0.mk (hb_); have ZE := Aside0.mk (hm_); have GGE := Aside0.mk (show w7.heap.size ≤ g3 by rw [hg_]; exact Nat.le_refl _); clear hm_ hb_ hg_) | (go_at_call 20; have hkey := B_6; clear hkey; refine (Exp_k Lb_6.out).mono ?_; rintro e w7 ⟨Ae, ce, rfl, hL, hb⟩; have B_7 := Aside0.mk (below_step B_6.out hb); have DR_7 := Aside0.mk (blk_below DR_6.out hb); have La_7 := Aside0.mk (La_6.out.below hb); have Lr_7 := Aside0.mk (Lr_6.out.below hb); have Lb_7 := Aside0.mk (Lb_6.out.below hb); clear DR_6 La_6 Lr_6 Lb_6; have Le_7 := Aside0.mk (hL); clear hb hL) | (go_at_call 42; have hkey := B_5; clear hkey; refine (row2_calls (some ⟨gb, 0, none⟩) 2 _).mono ?_; rintro e w6 ⟨rfl, hb⟩; have B_6 := Aside0.mk (below_step B_5.out hb); have DR_6 := Aside0.mk (blk_below DR_5.out hb); have La_6 := Aside0.mk (La_5.out.below hb); have Lr_6 := Aside0.mk (Lr_5.out.below hb); have Lb_6 := Aside0.mk (Lb_5.out.below hb); clear DR_5 La_5 Lr_5 Lb_5; clear hb) | ((with_reducible refine gate_dst (N := 15) rfl ?_); refine lit_event rfl (N := 15) rfl [1065353216, 1077936128] ?hl ?hr ?_; (case hl => decide); (case hr => first | (go_simp; done) | (go_simp; rfl)); intro gb w5 hl_ hb; have B_5 := Aside0.mk (below_step B_4.out hb); have DR_5 := Aside0.mk (blk_below DR_4.out hb); have La_5 := Aside0.mk (La_4.out.below hb); have Lr_5 := Aside0.mk (Lr_4.out.below hb); clear DR_4 La_4 Lr_4; have Lb_5 := Aside0.mk (hl_); clear hb hl_) | ((with_reducible refine gate_store (p := 1) rfl ?_); refine storeP_event rfl rfl rfl g1 2 1 Ar 2 cr _ _ _ rfl rfl ZR.out ?_; intro w4 hm_ hst_ hbl_; have BL3_2 := Aside0.mk (BL3_1.out.trans (hbl_ _ GGR.out)); have ZR_ := Aside0.mk hm_; have B_4 := Aside0.mk (below_step B_3.out BL3_2.out); have La_4 := Aside0.mk (La_3.out.below BL3_2.out); have Lr_4 := Aside0.mk (Lr_3.out.below BL3_2.out); clear La_3 Lr_3; have DR_4 := Aside0.mk (ZR_.out); clear ZR_ ZR BL3_1 BL3_2; clear hm_ hst_ hbl_) | ((with_reducible refine gate_dst (N := 1) rfl ?_); refine box_event ?hg (N := 1) ?hd (cs := #[.int .i64 0, .int .i64 0, .slice none 0 0]) (t := 25) ?hr ?_; (case hd => rfl); (case hg => rfl); (case hr => first | (go_simp; done) | (go_simp; rfl)); intro g1 hg_ w3_1 hm_ hb_; have BL3_1 := Aside0.mk (hb_); have ZR := Aside0.mk (hm_); have GGR := Aside0.mk (show w3.heap.size ≤ g1 by rw [hg_]; exact Nat.le_refl _); clear hm_ hb_ hg_) | (go_at_call 16; have hkey := B_2; clear hkey; refine (Red_k La_2.out).mono ?_; rintro e w3 ⟨Ar, cr, rfl, hL, hb⟩; have B_3 := Aside0.mk (below_step B_2.out hb); have La_3 := Aside0.mk (La_2.out.below hb); clear La_2; have Lr_3 := Aside0.mk (hL); clear hb hL) | (go_at_call 42; have hkey := B_1; clear hkey; refine (row4_calls (some ⟨ga, 0, none⟩) 4 _).mono ?_; rintro e w2 ⟨rfl, hb⟩; have B_2 := Aside0.mk (below_step B_1.out hb); have La_2 := Aside0.mk (La_1.out.below hb); clear La_1; clear hb) | ((with_reducible refine gate_dst (N := 9) rfl ?_); refine lit_event rfl (N := 9) rfl [1065353216, 1073741824, 1082130432, 1090519040] ?hl ?hr ?_; (case hl => decide); (case hr => first | (go_simp; done) | (go_simp; rfl)); intro ga w1 hl_ hb; have B_1 := Aside0.mk (below_step B_0.out hb); have La_1 := Aside0.mk (hl_); clear hb hl_))
 have hw0 : wrap64 0 = 0 := w64 (by decide) (by decide)
 have DR_d := Aside0.mk (blk_drew DR_12.out)
 have DE_d := Aside0.mk (blk_drew DE_12.out)
 have DS_d := Aside0.mk (blk_drew DS_12.out)
 have DU_d := Aside0.mk (blk_drew DU_12.out)
 have Lr_d := Aside0.mk (Lr_12.out.below (below_drew1 (Below.refl _ _)))
 have Le_d := Aside0.mk (Le_12.out.below (below_drew1 (Below.refl _ _)))
 have Ls_d := Aside0.mk (Ls_12.out.below (below_drew1 (Below.refl _ _)))
 have Lu_d := Aside0.mk (Lu_12.out.below (below_drew1 (Below.refl _ _)))
 have B_d : Aside0 (Below w.heap.size w w12.drew) := ⟨below_drew1 B_12.out⟩
 clear DR_12 DE_12 DS_12 DU_12 Lr_12 Le_12 Ls_12 Lu_12 B_12
 have DR_100 := DR_d
 have DE_100 := DE_d
 have DS_100 := DS_d
 have DU_100 := DU_d
 have Lr_100 := Lr_d
 have Le_100 := Le_d
 have Ls_100 := Ls_d
 have Lu_100 := Lu_d
 have B_100 := B_d
 clear DR_d DE_d DS_d DU_d Lr_d Le_d Ls_d Lu_d B_d
 refine start_ (n := 34) (S := fun w' => w'.cell? ⟨g1, 0, none⟩ = some (.int .i64 2) ∧ w'.cell? ⟨g1, 1, none⟩ = some (.int .i64 1) ∧ w'.cell? ⟨g1, 2, none⟩ = some (.slice Ar 2 cr) ∧ w'.cell? ⟨g3, 0, none⟩ = some (.int .i64 4) ∧ w'.cell? ⟨g3, 1, none⟩ = some (.int .i64 1) ∧ w'.cell? ⟨g3, 2, none⟩ = some (.slice Ae 4 ce) ∧ w'.cell? ⟨g5, 0, none⟩ = some (.int .i64 1) ∧ w'.cell? ⟨g5, 1, none⟩ = some (.int .i64 1) ∧ w'.cell? ⟨g5, 2, none⟩ = some (.slice As 1 cs) ∧ w'.cell? ⟨g6, 0, none⟩ = some (.int .i64 1) ∧ w'.cell? ⟨g6, 1, none⟩ = some (.int .i64 1) ∧ w'.cell? ⟨g6, 2, none⟩ = some (.slice Au 1 cu)) (ds := []) #[ff_,ff_,ff_,ff_,ff_,ff_,ff_,ff_,ff_,ff_,ff_,ff_,ff_,ff_,ff_,ff_,ff_,ff_,ff_,ff_,ff_,ff_,ff_,ff_,ff_,ff_,ff_,ff_,ff_,ff_,ff_,ff_,ff_,ff_] (by kernel_rfl) rfl rfl ⟨(blk_cell DR_100.out 0).trans rfl, (blk_cell DR_100.out 1).trans rfl, (blk_cell DR_100.out 2).trans rfl, (blk_cell DE_100.out 0).trans rfl, (blk_cell DE_100.out 1).trans rfl, (blk_cell DE_100.out 2).trans rfl, (blk_cell DS_100.out 0).trans rfl, (blk_cell DS_100.out 1).trans rfl, (blk_cell DS_100.out 2).trans rfl, (blk_cell DU_100.out 0).trans rfl, (blk_cell DU_100.out 1).trans rfl, (blk_cell DU_100.out 2).trans rfl⟩ (fun hHeld => ?_)
 generalize w12.drew = w100 at *
 refine pure_ (i := 0) (N := some 27) (v := ?_) (a' := ?_) #[tt_,ff_,ff_,ff_,ff_,ff_,ff_,ff_,ff_,ff_,ff_,ff_,ff_,ff_,ff_,ff_,ff_,ff_,ff_,ff_,ff_,ff_,ff_,ff_,ff_,ff_,ff_,ff_,ff_,ff_,ff_,ff_,ff_,ff_] rfl rfl (by kernel_rfl) (fun _ _ _ h => h) (Or.inl ⟨by rfl, ?_⟩) ?_ ?_
 rotate_left
 ·intro w'
  go_simp
  with_reducible rfl
 rotate_left
 ·simp only [Act.put, List.setIfInBounds_toArray, List.set_cons_zero, List.set_cons_succ, i64_w, i32_w]
  rfl
 refine pure_ (i := 2) (N := some 29) (v := ?_) (a' := ?_) #[tt_,ff_,tt_,ff_,ff_,ff_,ff_,ff_,ff_,ff_,ff_,ff_,ff_,ff_,ff_,ff_,ff_,ff_,ff_,ff_,ff_,ff_,ff_,ff_,ff_,ff_,ff_,ff_,ff_,ff_,ff_,ff_,ff_,ff_] rfl rfl (by kernel_rfl) (fun _ _ _ h => h) (Or.inl ⟨by rfl, ?_⟩) ?_ ?_
 rotate_left
 ·intro w'
  go_simp
  with_reducible rfl
 rotate_left
 ·simp only [Act.put, List.setIfInBounds_toArray, List.set_cons_zero, List.set_cons_succ, i64_w, i32_w]
  rfl
 refine pure_ (i := 5) (N := some 32) (v := ?_) (a' := ?_) #[tt_,ff_,tt_,ff_,ff_,tt_,ff_,ff_,ff_,ff_,ff_,ff_,ff_,ff_,ff_,ff_,ff_,ff_,ff_,ff_,ff_,ff_,ff_,ff_,ff_,ff_,ff_,ff_,ff_,ff_,ff_,ff_,ff_,ff_] rfl rfl (by kernel_rfl) (fun _ _ _ h => h) (Or.inl ⟨by rfl, ?_⟩) ?_ ?_
 rotate_left
 ·intro w'
  go_simp
  with_reducible rfl
 rotate_left
 ·simp only [Act.put, List.setIfInBounds_toArray, List.set_cons_zero, List.set_cons_succ, i64_w, i32_w]
  rfl
 refine one_ (i := 1) (N := some 28) #[tt_,tt_,tt_,ff_,ff_,tt_,ff_,ff_,ff_,ff_,ff_,ff_,ff_,ff_,ff_,ff_,ff_,ff_,ff_,ff_,ff_,ff_,ff_,ff_,ff_,ff_,ff_,ff_,ff_,ff_,ff_,ff_,ff_,ff_] rfl rfl (by kernel_rfl) (by decide) (fun K hK => ?_)
 refine goes_ Try.func17 (by kernel_rfl) rfl #[.int .i64 0] (by rfl) rfl rfl (by (try simp only [List.map_toArray, List.map_cons, List.map_nil]); rfl) ?_
 with_reducible refine (num_calls 0 _).mono ?_
 rintro e _ ⟨rfl, rfl⟩
 refine ⟨_, rfl, ?_⟩
 refine hK.out _ _ ⟨(blk_cell DR_100.out 0).trans rfl, (blk_cell DR_100.out 1).trans rfl, (blk_cell DR_100.out 2).trans rfl, (blk_cell DE_100.out 0).trans rfl, (blk_cell DE_100.out 1).trans rfl, (blk_cell DE_100.out 2).trans rfl, (blk_cell DS_100.out 0).trans rfl, (blk_cell DS_100.out 1).trans rfl, (blk_cell DS_100.out 2).trans rfl, (blk_cell DU_100.out 0).trans rfl, (blk_cell DU_100.out 1).trans rfl, (blk_cell DU_100.out 2).trans rfl⟩ (fun hHeld => ?_)
 clear hK K
 refine norm_ (a' := ?_) ?_ ?_
 rotate_left
 ·show Act.put _ (some 28) _ = _
  simp only [Act.put, List.setIfInBounds_toArray, List.set_cons_zero, List.set_cons_succ, i64_w, i32_w]
  rfl
 refine one_ (i := 3) (N := some 30) #[tt_,tt_,tt_,tt_,ff_,tt_,ff_,ff_,ff_,ff_,ff_,ff_,ff_,ff_,ff_,ff_,ff_,ff_,ff_,ff_,ff_,ff_,ff_,ff_,ff_,ff_,ff_,ff_,ff_,ff_,ff_,ff_,ff_,ff_] rfl rfl (by kernel_rfl) (by decide) (fun K hK => ?_)
 refine goes_ Try.func17 (by kernel_rfl) rfl #[.int .i64 0] (by rfl) rfl rfl (by (try simp only [List.map_toArray, List.map_cons, List.map_nil]); rfl) ?_
 with_reducible refine (num_calls 0 _).mono ?_
 rintro e _ ⟨rfl, rfl⟩
 refine ⟨_, rfl, ?_⟩
 refine hK.out _ _ ⟨(blk_cell DR_100.out 0).trans rfl, (blk_cell DR_100.out 1).trans rfl, (blk_cell DR_100.out 2).trans rfl, (blk_cell DE_100.out 0).trans rfl, (blk_cell DE_100.out 1).trans rfl, (blk_cell DE_100.out 2).trans rfl, (blk_cell DS_100.out 0).trans rfl, (blk_cell DS_100.out 1).trans rfl, (blk_cell DS_100.out 2).trans rfl, (blk_cell DU_100.out 0).trans rfl, (blk_cell DU_100.out 1).trans rfl, (blk_cell DU_100.out 2).trans rfl⟩ (fun hHeld => ?_)
 clear hK K
 refine norm_ (a' := ?_) ?_ ?_
 rotate_left
 ·show Act.put _ (some 30) _ = _
  simp only [Act.put, List.setIfInBounds_toArray, List.set_cons_zero, List.set_cons_succ, i64_w, i32_w]
  rfl
 refine pure_ (i := 4) (N := some 31) (v := ?_) (a' := ?_) #[tt_,tt_,tt_,tt_,tt_,tt_,ff_,ff_,ff_,ff_,ff_,ff_,ff_,ff_,ff_,ff_,ff_,ff_,ff_,ff_,ff_,ff_,ff_,ff_,ff_,ff_,ff_,ff_,ff_,ff_,ff_,ff_,ff_,ff_] rfl rfl (by kernel_rfl) (fun _ _ _ h => h) (Or.inl ⟨by rfl, ?_⟩) ?_ ?_
 rotate_left
 ·intro w'
  go_simp
  with_reducible rfl
 rotate_left
 ·simp only [Act.put, List.setIfInBounds_toArray, List.set_cons_zero, List.set_cons_succ, i64_w, i32_w]
  rfl
 refine one_ (i := 6) (N := some 33) #[tt_,tt_,tt_,tt_,tt_,tt_,tt_,ff_,ff_,ff_,ff_,ff_,ff_,ff_,ff_,ff_,ff_,ff_,ff_,ff_,ff_,ff_,ff_,ff_,ff_,ff_,ff_,ff_,ff_,ff_,ff_,ff_,ff_,ff_] rfl rfl (by kernel_rfl) (by decide) (fun K hK => ?_)
 refine goes_ Try.func17 (by kernel_rfl) rfl #[.int .i64 0] (by rfl) rfl rfl (by (try simp only [List.map_toArray, List.map_cons, List.map_nil]); rfl) ?_
 with_reducible refine (num_calls 0 _).mono ?_
 rintro e _ ⟨rfl, rfl⟩
 refine ⟨_, rfl, ?_⟩
 refine hK.out _ _ ⟨(blk_cell DR_100.out 0).trans rfl, (blk_cell DR_100.out 1).trans rfl, (blk_cell DR_100.out 2).trans rfl, (blk_cell DE_100.out 0).trans rfl, (blk_cell DE_100.out 1).trans rfl, (blk_cell DE_100.out 2).trans rfl, (blk_cell DS_100.out 0).trans rfl, (blk_cell DS_100.out 1).trans rfl, (blk_cell DS_100.out 2).trans rfl, (blk_cell DU_100.out 0).trans rfl, (blk_cell DU_100.out 1).trans rfl, (blk_cell DU_100.out 2).trans rfl⟩ (fun hHeld => ?_)
 clear hK K
 refine norm_ (a' := ?_) ?_ ?_
 rotate_left
 ·show Act.put _ (some 33) _ = _
  simp only [Act.put, List.setIfInBounds_toArray, List.set_cons_zero, List.set_cons_succ, i64_w, i32_w]
  rfl
 refine pure_ (i := 7) (N := some 34) (v := ?_) (a' := ?_) #[tt_,tt_,tt_,tt_,tt_,tt_,tt_,tt_,ff_,ff_,ff_,ff_,ff_,ff_,ff_,ff_,ff_,ff_,ff_,ff_,ff_,ff_,ff_,ff_,ff_,ff_,ff_,ff_,ff_,ff_,ff_,ff_,ff_,ff_] rfl rfl (by kernel_rfl) (fun _ _ _ h => h) (Or.inl ⟨by rfl, ?_⟩) ?_ ?_
 rotate_left
 ·intro w'
  go_simp
  with_reducible rfl
 rotate_left
 ·simp only [Act.put, List.setIfInBounds_toArray, List.set_cons_zero, List.set_cons_succ, i64_w, i32_w]
  rfl
 refine pure_ (i := 8) (N := some 35) (v := ?_) (a' := ?_) #[tt_,tt_,tt_,tt_,tt_,tt_,tt_,tt_,tt_,ff_,ff_,ff_,ff_,ff_,ff_,ff_,ff_,ff_,ff_,ff_,ff_,ff_,ff_,ff_,ff_,ff_,ff_,ff_,ff_,ff_,ff_,ff_,ff_,ff_] rfl rfl (by kernel_rfl) (fun _ _ _ h => h) (Or.inl ⟨by rfl, ?_⟩) ?_ ?_
 rotate_left
 ·intro w'
  go_simp
  with_reducible rfl
 rotate_left
 ·simp only [Act.put, List.setIfInBounds_toArray, List.set_cons_zero, List.set_cons_succ, i64_w, i32_w]
  rfl
 refine pure_ (i := 9) (N := some 36) (v := ?_) (a' := ?_) #[tt_,tt_,tt_,tt_,tt_,tt_,tt_,tt_,tt_,tt_,ff_,ff_,ff_,ff_,ff_,ff_,ff_,ff_,ff_,ff_,ff_,ff_,ff_,ff_,ff_,ff_,ff_,ff_,ff_,ff_,ff_,ff_,ff_,ff_] rfl rfl (by kernel_rfl) (fun _ _ _ h => h) (Or.inl ⟨by rfl, ?_⟩) ?_ ?_
 rotate_left
 ·intro w'
  go_simp
  with_reducible rfl
 rotate_left
 ·simp only [Act.put, List.setIfInBounds_toArray, List.set_cons_zero, List.set_cons_succ, i64_w, i32_w]
  rfl
 refine take_ (i := 10) (N := some 37) (v := ?_) (a' := ?_) #[tt_,tt_,tt_,tt_,tt_,tt_,tt_,tt_,tt_,tt_,tt_,ff_,ff_,ff_,ff_,ff_,ff_,ff_,ff_,ff_,ff_,ff_,ff_,ff_,ff_,ff_,ff_,ff_,ff_,ff_,ff_,ff_,ff_,ff_] rfl rfl (by kernel_rfl) (fun _ _ _ h => h) (Or.inl ⟨by rfl, ?_⟩) hHeld ?_ ?_
 rotate_left
 ·rintro w' ⟨s0, s1, s2, s3, s4, s5, s6, s7, s8, s9, s10, s11⟩
  go_simp
  with_reducible rfl
 rotate_left
 ·simp only [Act.put, List.setIfInBounds_toArray, List.set_cons_zero, List.set_cons_succ, i64_w, i32_w]
  rfl
 refine one_ (i := 11) (N := some 38) #[tt_,tt_,tt_,tt_,tt_,tt_,tt_,tt_,tt_,tt_,tt_,tt_,ff_,ff_,ff_,ff_,ff_,ff_,ff_,ff_,ff_,ff_,ff_,ff_,ff_,ff_,ff_,ff_,ff_,ff_,ff_,ff_,ff_,ff_] rfl rfl (by kernel_rfl) (by decide) (fun K hK => ?_)
 refine lit_step (by rfl) rfl [1069023232, 1083310080] (by decide) (by first | (go_simp; done) | (go_simp; rfl)) ?_
 intro gx w101 hl_ hb
 have B_101 := Aside0.mk (below_step B_100.out hb)
 have DR_101 := Aside0.mk (blk_below DR_100.out hb)
 have DE_101 := Aside0.mk (blk_below DE_100.out hb)
 have DS_101 := Aside0.mk (blk_below DS_100.out hb)
 have DU_101 := Aside0.mk (blk_below DU_100.out hb)
 have Lr_101 := Aside0.mk (Lr_100.out.below hb)
 have Le_101 := Aside0.mk (Le_100.out.below hb)
 have Ls_101 := Aside0.mk (Ls_100.out.below hb)
 have Lu_101 := Aside0.mk (Lu_100.out.below hb)
 clear DR_100 DE_100 DS_100 DU_100 Lr_100 Le_100 Ls_100 Lu_100
 have Lx_101 := Aside0.mk (hl_)
 clear hb hl_
 refine hK.out _ _ ⟨(blk_cell DR_101.out 0).trans rfl, (blk_cell DR_101.out 1).trans rfl, (blk_cell DR_101.out 2).trans rfl, (blk_cell DE_101.out 0).trans rfl, (blk_cell DE_101.out 1).trans rfl, (blk_cell DE_101.out 2).trans rfl, (blk_cell DS_101.out 0).trans rfl, (blk_cell DS_101.out 1).trans rfl, (blk_cell DS_101.out 2).trans rfl, (blk_cell DU_101.out 0).trans rfl, (blk_cell DU_101.out 1).trans rfl, (blk_cell DU_101.out 2).trans rfl⟩ (fun hHeld => ?_)
 clear hK K
 refine norm_ (a' := ?_) ?_ ?_
 rotate_left
 ·show Act.put _ (some 38) _ = _
  simp only [Act.put, List.setIfInBounds_toArray, List.set_cons_zero, List.set_cons_succ, i64_w, i32_w]
  rfl
 refine one_ (i := 12) (N := some 39) #[tt_,tt_,tt_,tt_,tt_,tt_,tt_,tt_,tt_,tt_,tt_,tt_,tt_,ff_,ff_,ff_,ff_,ff_,ff_,ff_,ff_,ff_,ff_,ff_,ff_,ff_,ff_,ff_,ff_,ff_,ff_,ff_,ff_,ff_] rfl rfl (by kernel_rfl) (by decide) (fun K hK => ?_)
 refine goes_ Try.func42 (by kernel_rfl) rfl #[.slice (some ⟨gx, 0, none⟩) 2 2] (by rfl) rfl rfl (by (try simp only [List.map_toArray, List.map_cons, List.map_nil]); rfl) ?_
 refine (row2_calls (some ⟨gx, 0, none⟩) 2 _).mono ?_
 rintro e w102 ⟨rfl, hb⟩
 refine ⟨_, rfl, ?_⟩
 have B_102 := Aside0.mk (below_step B_101.out hb)
 have DR_102 := Aside0.mk (blk_below DR_101.out hb)
 have DE_102 := Aside0.mk (blk_below DE_101.out hb)
 have DS_102 := Aside0.mk (blk_below DS_101.out hb)
 have DU_102 := Aside0.mk (blk_below DU_101.out hb)
 have Lr_102 := Aside0.mk (Lr_101.out.below hb)
 have Le_102 := Aside0.mk (Le_101.out.below hb)
 have Ls_102 := Aside0.mk (Ls_101.out.below hb)
 have Lu_102 := Aside0.mk (Lu_101.out.below hb)
 have Lx_102 := Aside0.mk (Lx_101.out.below hb)
 clear DR_101 DE_101 DS_101 DU_101 Lr_101 Le_101 Ls_101 Lu_101 Lx_101
 clear hb
 refine hK.out _ _ ⟨(blk_cell DR_102.out 0).trans rfl, (blk_cell DR_102.out 1).trans rfl, (blk_cell DR_102.out 2).trans rfl, (blk_cell DE_102.out 0).trans rfl, (blk_cell DE_102.out 1).trans rfl, (blk_cell DE_102.out 2).trans rfl, (blk_cell DS_102.out 0).trans rfl, (blk_cell DS_102.out 1).trans rfl, (blk_cell DS_102.out 2).trans rfl, (blk_cell DU_102.out 0).trans rfl, (blk_cell DU_102.out 1).trans rfl, (blk_cell DU_102.out 2).trans rfl⟩ (fun hHeld => ?_)
 clear hK K
 refine norm_ (a' := ?_) ?_ ?_
 rotate_left
 ·show Act.put _ (some 39) _ = _
  simp only [Act.put, List.setIfInBounds_toArray, List.set_cons_zero, List.set_cons_succ, i64_w, i32_w]
  rfl
 refine one_ (i := 13) (N := some 40) #[tt_,tt_,tt_,tt_,tt_,tt_,tt_,tt_,tt_,tt_,tt_,tt_,tt_,tt_,ff_,ff_,ff_,ff_,ff_,ff_,ff_,ff_,ff_,ff_,ff_,ff_,ff_,ff_,ff_,ff_,ff_,ff_,ff_,ff_] rfl rfl (by kernel_rfl) (by decide) (fun K hK => ?_)
 refine goes_ Try.func18 (by kernel_rfl) rfl #[.agg #[.int .i64 2, .int .i64 1, .slice Ar 2 cr], .agg #[.int .i64 2, .int .i64 1, .slice (some ⟨gx, 0, none⟩) 2 2]] (by rfl) rfl rfl (by (try simp only [List.map_toArray, List.map_cons, List.map_nil]); rfl) ?_
 refine (same2_k Lr_102.out Lx_102.out).mono ?_
 rintro e w103 ⟨rfl, hb⟩
 refine ⟨_, rfl, ?_⟩
 have B_103 := Aside0.mk (below_step B_102.out hb)
 have DR_103 := Aside0.mk (blk_below DR_102.out hb)
 have DE_103 := Aside0.mk (blk_below DE_102.out hb)
 have DS_103 := Aside0.mk (blk_below DS_102.out hb)
 have DU_103 := Aside0.mk (blk_below DU_102.out hb)
 have Lr_103 := Aside0.mk (Lr_102.out.below hb)
 have Le_103 := Aside0.mk (Le_102.out.below hb)
 have Ls_103 := Aside0.mk (Ls_102.out.below hb)
 have Lu_103 := Aside0.mk (Lu_102.out.below hb)
 have Lx_103 := Aside0.mk (Lx_102.out.below hb)
 clear DR_102 DE_102 DS_102 DU_102 Lr_102 Le_102 Ls_102 Lu_102 Lx_102
 clear hb
 refine hK.out _ _ ⟨(blk_cell DR_103.out 0).trans rfl, (blk_cell DR_103.out 1).trans rfl, (blk_cell DR_103.out 2).trans rfl, (blk_cell DE_103.out 0).trans rfl, (blk_cell DE_103.out 1).trans rfl, (blk_cell DE_103.out 2).trans rfl, (blk_cell DS_103.out 0).trans rfl, (blk_cell DS_103.out 1).trans rfl, (blk_cell DS_103.out 2).trans rfl, (blk_cell DU_103.out 0).trans rfl, (blk_cell DU_103.out 1).trans rfl, (blk_cell DU_103.out 2).trans rfl⟩ (fun hHeld => ?_)
 clear hK K
 refine norm_ (a' := ?_) ?_ ?_
 rotate_left
 ·show Act.put _ (some 40) _ = _
  simp only [Act.put, List.setIfInBounds_toArray, List.set_cons_zero, List.set_cons_succ, i64_w, i32_w]
  rfl
 refine pure_ (i := 14) (N := some 41) (v := ?_) (a' := ?_) #[tt_,tt_,tt_,tt_,tt_,tt_,tt_,tt_,tt_,tt_,tt_,tt_,tt_,tt_,tt_,ff_,ff_,ff_,ff_,ff_,ff_,ff_,ff_,ff_,ff_,ff_,ff_,ff_,ff_,ff_,ff_,ff_,ff_,ff_] rfl rfl (by kernel_rfl) (fun _ _ _ h => h) (Or.inl ⟨by rfl, ?_⟩) ?_ ?_
 rotate_left
 ·intro w'
  go_simp
  with_reducible rfl
 rotate_left
 ·simp only [Act.put, List.setIfInBounds_toArray, List.set_cons_zero, List.set_cons_succ, i64_w, i32_w]
  rfl
 refine pure_ (i := 15) (N := some 42) (v := ?_) (a' := ?_) #[tt_,tt_,tt_,tt_,tt_,tt_,tt_,tt_,tt_,tt_,tt_,tt_,tt_,tt_,tt_,tt_,ff_,ff_,ff_,ff_,ff_,ff_,ff_,ff_,ff_,ff_,ff_,ff_,ff_,ff_,ff_,ff_,ff_,ff_] rfl rfl (by kernel_rfl) (fun _ _ _ h => h) (Or.inl ⟨by rfl, ?_⟩) ?_ ?_
 rotate_left
 ·intro w'
  go_simp
  with_reducible rfl
 rotate_left
 ·simp only [Act.put, List.setIfInBounds_toArray, List.set_cons_zero, List.set_cons_succ, i64_w, i32_w]
  rfl
 refine take_ (i := 16) (N := some 43) (v := ?_) (a' := ?_) #[tt_,tt_,tt_,tt_,tt_,tt_,tt_,tt_,tt_,tt_,tt_,tt_,tt_,tt_,tt_,tt_,tt_,ff_,ff_,ff_,ff_,ff_,ff_,ff_,ff_,ff_,ff_,ff_,ff_,ff_,ff_,ff_,ff_,ff_] rfl rfl (by kernel_rfl) (fun _ _ _ h => h) (Or.inl ⟨by rfl, ?_⟩) hHeld ?_ ?_
 rotate_left
 ·rintro w' ⟨s0, s1, s2, s3, s4, s5, s6, s7, s8, s9, s10, s11⟩
  go_simp
  with_reducible rfl
 rotate_left
 ·simp only [Act.put, List.setIfInBounds_toArray, List.set_cons_zero, List.set_cons_succ, i64_w, i32_w]
  rfl
 refine one_ (i := 17) (N := some 44) #[tt_,tt_,tt_,tt_,tt_,tt_,tt_,tt_,tt_,tt_,tt_,tt_,tt_,tt_,tt_,tt_,tt_,tt_,ff_,ff_,ff_,ff_,ff_,ff_,ff_,ff_,ff_,ff_,ff_,ff_,ff_,ff_,ff_,ff_] rfl rfl (by kernel_rfl) (by decide) (fun K hK => ?_)
 refine lit_step (by rfl) rfl [1067450368, 1073741824, 1076887552, 1077936128] (by decide) (by first | (go_simp; done) | (go_simp; rfl)) ?_
 intro gy w104 hl_ hb
 have B_104 := Aside0.mk (below_step B_103.out hb)
 have DR_104 := Aside0.mk (blk_below DR_103.out hb)
 have DE_104 := Aside0.mk (blk_below DE_103.out hb)
 have DS_104 := Aside0.mk (blk_below DS_103.out hb)
 have DU_104 := Aside0.mk (blk_below DU_103.out hb)
 have Lr_104 := Aside0.mk (Lr_103.out.below hb)
 have Le_104 := Aside0.mk (Le_103.out.below hb)
 have Ls_104 := Aside0.mk (Ls_103.out.below hb)
 have Lu_104 := Aside0.mk (Lu_103.out.below hb)
 clear DR_103 DE_103 DS_103 DU_103 Lr_103 Le_103 Ls_103 Lu_103
 have Ly_104 := Aside0.mk (hl_)
 clear hb hl_
 refine hK.out _ _ ⟨(blk_cell DR_104.out 0).trans rfl, (blk_cell DR_104.out 1).trans rfl, (blk_cell DR_104.out 2).trans rfl, (blk_cell DE_104.out 0).trans rfl, (blk_cell DE_104.out 1).trans rfl, (blk_cell DE_104.out 2).trans rfl, (blk_cell DS_104.out 0).trans rfl, (blk_cell DS_104.out 1).trans rfl, (blk_cell DS_104.out 2).trans rfl, (blk_cell DU_104.out 0).trans rfl, (blk_cell DU_104.out 1).trans rfl, (blk_cell DU_104.out 2).trans rfl⟩ (fun hHeld => ?_)
 clear hK K
 refine norm_ (a' := ?_) ?_ ?_
 rotate_left
 ·show Act.put _ (some 44) _ = _
  simp only [Act.put, List.setIfInBounds_toArray, List.set_cons_zero, List.set_cons_succ, i64_w, i32_w]
  rfl
 refine one_ (i := 18) (N := some 45) #[tt_,tt_,tt_,tt_,tt_,tt_,tt_,tt_,tt_,tt_,tt_,tt_,tt_,tt_,tt_,tt_,tt_,tt_,tt_,ff_,ff_,ff_,ff_,ff_,ff_,ff_,ff_,ff_,ff_,ff_,ff_,ff_,ff_,ff_] rfl rfl (by kernel_rfl) (by decide) (fun K hK => ?_)
 refine goes_ Try.func42 (by kernel_rfl) rfl #[.slice (some ⟨gy, 0, none⟩) 4 4] (by rfl) rfl rfl (by (try simp only [List.map_toArray, List.map_cons, List.map_nil]); rfl) ?_
 refine (row4_calls (some ⟨gy, 0, none⟩) 4 _).mono ?_
 rintro e w105 ⟨rfl, hb⟩
 refine ⟨_, rfl, ?_⟩
 have B_105 := Aside0.mk (below_step B_104.out hb)
 have DR_105 := Aside0.mk (blk_below DR_104.out hb)
 have DE_105 := Aside0.mk (blk_below DE_104.out hb)
 have DS_105 := Aside0.mk (blk_below DS_104.out hb)
 have DU_105 := Aside0.mk (blk_below DU_104.out hb)
 have Lr_105 := Aside0.mk (Lr_104.out.below hb)
 have Le_105 := Aside0.mk (Le_104.out.below hb)
 have Ls_105 := Aside0.mk (Ls_104.out.below hb)
 have Lu_105 := Aside0.mk (Lu_104.out.below hb)
 have Ly_105 := Aside0.mk (Ly_104.out.below hb)
 clear DR_104 DE_104 DS_104 DU_104 Lr_104 Le_104 Ls_104 Lu_104 Ly_104
 clear hb
 refine hK.out _ _ ⟨(blk_cell DR_105.out 0).trans rfl, (blk_cell DR_105.out 1).trans rfl, (blk_cell DR_105.out 2).trans rfl, (blk_cell DE_105.out 0).trans rfl, (blk_cell DE_105.out 1).trans rfl, (blk_cell DE_105.out 2).trans rfl, (blk_cell DS_105.out 0).trans rfl, (blk_cell DS_105.out 1).trans rfl, (blk_cell DS_105.out 2).trans rfl, (blk_cell DU_105.out 0).trans rfl, (blk_cell DU_105.out 1).trans rfl, (blk_cell DU_105.out 2).trans rfl⟩ (fun hHeld => ?_)
 clear hK K
 refine norm_ (a' := ?_) ?_ ?_
 rotate_left
 ·show Act.put _ (some 45) _ = _
  simp only [Act.put, List.setIfInBounds_toArray, List.set_cons_zero, List.set_cons_succ, i64_w, i32_w]
  rfl
 refine one_ (i := 19) (N := some 46) #[tt_,tt_,tt_,tt_,tt_,tt_,tt_,tt_,tt_,tt_,tt_,tt_,tt_,tt_,tt_,tt_,tt_,tt_,tt_,tt_,ff_,ff_,ff_,ff_,ff_,ff_,ff_,ff_,ff_,ff_,ff_,ff_,ff_,ff_] rfl rfl (by kernel_rfl) (by decide) (fun K hK => ?_)
 refine goes_ Try.func18 (by kernel_rfl) rfl #[.agg #[.int .i64 4, .int .i64 1, .slice Ae 4 ce], .agg #[.int .i64 4, .int .i64 1, .slice (some ⟨gy, 0, none⟩) 4 4]] (by rfl) rfl rfl (by (try simp only [List.map_toArray, List.map_cons, List.map_nil]); rfl) ?_
 refine (same4_k Le_105.out Ly_105.out).mono ?_
 rintro e w106 ⟨rfl, hb⟩
 refine ⟨_, rfl, ?_⟩
 have B_106 := Aside0.mk (below_step B_105.out hb)
 have DR_106 := Aside0.mk (blk_below DR_105.out hb)
 have DE_106 := Aside0.mk (blk_below DE_105.out hb)
 have DS_106 := Aside0.mk (blk_below DS_105.out hb)
 have DU_106 := Aside0.mk (blk_below DU_105.out hb)
 have Lr_106 := Aside0.mk (Lr_105.out.below hb)
 have Le_106 := Aside0.mk (Le_105.out.below hb)
 have Ls_106 := Aside0.mk (Ls_105.out.below hb)
 have Lu_106 := Aside0.mk (Lu_105.out.below hb)
 have Ly_106 := Aside0.mk (Ly_105.out.below hb)
 clear DR_105 DE_105 DS_105 DU_105 Lr_105 Le_105 Ls_105 Lu_105 Ly_105
 clear hb
 refine hK.out _ _ ⟨(blk_cell DR_106.out 0).trans rfl, (blk_cell DR_106.out 1).trans rfl, (blk_cell DR_106.out 2).trans rfl, (blk_cell DE_106.out 0).trans rfl, (blk_cell DE_106.out 1).trans rfl, (blk_cell DE_106.out 2).trans rfl, (blk_cell DS_106.out 0).trans rfl, (blk_cell DS_106.out 1).trans rfl, (blk_cell DS_106.out 2).trans rfl, (blk_cell DU_106.out 0).trans rfl, (blk_cell DU_106.out 1).trans rfl, (blk_cell DU_106.out 2).trans rfl⟩ (fun hHeld => ?_)
 clear hK K
 refine norm_ (a' := ?_) ?_ ?_
 rotate_left
 ·show Act.put _ (some 46) _ = _
  simp only [Act.put, List.setIfInBounds_toArray, List.set_cons_zero, List.set_cons_succ, i64_w, i32_w]
  rfl
 refine pure_ (i := 20) (N := some 47) (v := ?_) (a' := ?_) #[tt_,tt_,tt_,tt_,tt_,tt_,tt_,tt_,tt_,tt_,tt_,tt_,tt_,tt_,tt_,tt_,tt_,tt_,tt_,tt_,tt_,ff_,ff_,ff_,ff_,ff_,ff_,ff_,ff_,ff_,ff_,ff_,ff_,ff_] rfl rfl (by kernel_rfl) (fun _ _ _ h => h) (Or.inl ⟨by rfl, ?_⟩) ?_ ?_
 rotate_left
 ·intro w'
  go_simp
  with_reducible rfl
 rotate_left
 ·simp only [Act.put, List.setIfInBounds_toArray, List.set_cons_zero, List.set_cons_succ, i64_w, i32_w]
  rfl
 refine pure_ (i := 21) (N := some 48) (v := ?_) (a' := ?_) #[tt_,tt_,tt_,tt_,tt_,tt_,tt_,tt_,tt_,tt_,tt_,tt_,tt_,tt_,tt_,tt_,tt_,tt_,tt_,tt_,tt_,tt_,ff_,ff_,ff_,ff_,ff_,ff_,ff_,ff_,ff_,ff_,ff_,ff_] rfl rfl (by kernel_rfl) (fun _ _ _ h => h) (Or.inl ⟨by rfl, ?_⟩) ?_ ?_
 rotate_left
 ·intro w'
  go_simp
  with_reducible rfl
 rotate_left
 ·simp only [Act.put, List.setIfInBounds_toArray, List.set_cons_zero, List.set_cons_succ, i64_w, i32_w]
  rfl
 refine take_ (i := 22) (N := some 49) (v := ?_) (a' := ?_) #[tt_,tt_,tt_,tt_,tt_,tt_,tt_,tt_,tt_,tt_,tt_,tt_,tt_,tt_,tt_,tt_,tt_,tt_,tt_,tt_,tt_,tt_,tt_,ff_,ff_,ff_,ff_,ff_,ff_,ff_,ff_,ff_,ff_,ff_] rfl rfl (by kernel_rfl) (fun _ _ _ h => h) (Or.inl ⟨by rfl, ?_⟩) hHeld ?_ ?_
 rotate_left
 ·rintro w' ⟨s0, s1, s2, s3, s4, s5, s6, s7, s8, s9, s10, s11⟩
  go_simp
  with_reducible rfl
 rotate_left
 ·simp only [Act.put, List.setIfInBounds_toArray, List.set_cons_zero, List.set_cons_succ, i64_w, i32_w]
  rfl
 refine one_ (i := 23) (N := some 50) #[tt_,tt_,tt_,tt_,tt_,tt_,tt_,tt_,tt_,tt_,tt_,tt_,tt_,tt_,tt_,tt_,tt_,tt_,tt_,tt_,tt_,tt_,tt_,tt_,ff_,ff_,ff_,ff_,ff_,ff_,ff_,ff_,ff_,ff_] rfl rfl (by kernel_rfl) (by decide) (fun K hK => ?_)
 refine lit_step (by rfl) rfl [2143289344] (by decide) (by first | (go_simp; done) | (go_simp; rfl)) ?_
 intro gz w107 hl_ hb
 have B_107 := Aside0.mk (below_step B_106.out hb)
 have DR_107 := Aside0.mk (blk_below DR_106.out hb)
 have DE_107 := Aside0.mk (blk_below DE_106.out hb)
 have DS_107 := Aside0.mk (blk_below DS_106.out hb)
 have DU_107 := Aside0.mk (blk_below DU_106.out hb)
 have Lr_107 := Aside0.mk (Lr_106.out.below hb)
 have Le_107 := Aside0.mk (Le_106.out.below hb)
 have Ls_107 := Aside0.mk (Ls_106.out.below hb)
 have Lu_107 := Aside0.mk (Lu_106.out.below hb)
 clear DR_106 DE_106 DS_106 DU_106 Lr_106 Le_106 Ls_106 Lu_106
 have Lz_107 := Aside0.mk (hl_)
 clear hb hl_
 refine hK.out _ _ ⟨(blk_cell DR_107.out 0).trans rfl, (blk_cell DR_107.out 1).trans rfl, (blk_cell DR_107.out 2).trans rfl, (blk_cell DE_107.out 0).trans rfl, (blk_cell DE_107.out 1).trans rfl, (blk_cell DE_107.out 2).trans rfl, (blk_cell DS_107.out 0).trans rfl, (blk_cell DS_107.out 1).trans rfl, (blk_cell DS_107.out 2).trans rfl, (blk_cell DU_107.out 0).trans rfl, (blk_cell DU_107.out 1).trans rfl, (blk_cell DU_107.out 2).trans rfl⟩ (fun hHeld => ?_)
 clear hK K
 refine norm_ (a' := ?_) ?_ ?_
 rotate_left
 ·show Act.put _ (some 50) _ = _
  simp only [Act.put, List.setIfInBounds_toArray, List.set_cons_zero, List.set_cons_succ, i64_w, i32_w]
  rfl
 refine one_ (i := 24) (N := some 51) #[tt_,tt_,tt_,tt_,tt_,tt_,tt_,tt_,tt_,tt_,tt_,tt_,tt_,tt_,tt_,tt_,tt_,tt_,tt_,tt_,tt_,tt_,tt_,tt_,tt_,ff_,ff_,ff_,ff_,ff_,ff_,ff_,ff_,ff_] rfl rfl (by kernel_rfl) (by decide) (fun K hK => ?_)
 refine goes_ Try.func42 (by kernel_rfl) rfl #[.slice (some ⟨gz, 0, none⟩) 1 1] (by rfl) rfl rfl (by (try simp only [List.map_toArray, List.map_cons, List.map_nil]); rfl) ?_
 refine (row1_calls (some ⟨gz, 0, none⟩) 1 _).mono ?_
 rintro e w108 ⟨rfl, hb⟩
 refine ⟨_, rfl, ?_⟩
 have B_108 := Aside0.mk (below_step B_107.out hb)
 have DR_108 := Aside0.mk (blk_below DR_107.out hb)
 have DE_108 := Aside0.mk (blk_below DE_107.out hb)
 have DS_108 := Aside0.mk (blk_below DS_107.out hb)
 have DU_108 := Aside0.mk (blk_below DU_107.out hb)
 have Lr_108 := Aside0.mk (Lr_107.out.below hb)
 have Le_108 := Aside0.mk (Le_107.out.below hb)
 have Ls_108 := Aside0.mk (Ls_107.out.below hb)
 have Lu_108 := Aside0.mk (Lu_107.out.below hb)
 have Lz_108 := Aside0.mk (Lz_107.out.below hb)
 clear DR_107 DE_107 DS_107 DU_107 Lr_107 Le_107 Ls_107 Lu_107 Lz_107
 clear hb
 refine hK.out _ _ ⟨(blk_cell DR_108.out 0).trans rfl, (blk_cell DR_108.out 1).trans rfl, (blk_cell DR_108.out 2).trans rfl, (blk_cell DE_108.out 0).trans rfl, (blk_cell DE_108.out 1).trans rfl, (blk_cell DE_108.out 2).trans rfl, (blk_cell DS_108.out 0).trans rfl, (blk_cell DS_108.out 1).trans rfl, (blk_cell DS_108.out 2).trans rfl, (blk_cell DU_108.out 0).trans rfl, (blk_cell DU_108.out 1).trans rfl, (blk_cell DU_108.out 2).trans rfl⟩ (fun hHeld => ?_)
 clear hK K
 refine norm_ (a' := ?_) ?_ ?_
 rotate_left
 ·show Act.put _ (some 51) _ = _
  simp only [Act.put, List.setIfInBounds_toArray, List.set_cons_zero, List.set_cons_succ, i64_w, i32_w]
  rfl
 refine one_ (i := 25) (N := some 52) #[tt_,tt_,tt_,tt_,tt_,tt_,tt_,tt_,tt_,tt_,tt_,tt_,tt_,tt_,tt_,tt_,tt_,tt_,tt_,tt_,tt_,tt_,tt_,tt_,tt_,tt_,ff_,ff_,ff_,ff_,ff_,ff_,ff_,ff_] rfl rfl (by kernel_rfl) (by decide) (fun K hK => ?_)
 refine goes_ Try.func18 (by kernel_rfl) rfl #[.agg #[.int .i64 1, .int .i64 1, .slice As 1 cs], .agg #[.int .i64 1, .int .i64 1, .slice (some ⟨gz, 0, none⟩) 1 1]] (by rfl) rfl rfl (by (try simp only [List.map_toArray, List.map_cons, List.map_nil]); rfl) ?_
 refine (same1_k Ls_108.out Lz_108.out).mono ?_
 rintro e w109 ⟨rfl, hb⟩
 refine ⟨_, rfl, ?_⟩
 have B_109 := Aside0.mk (below_step B_108.out hb)
 have DR_109 := Aside0.mk (blk_below DR_108.out hb)
 have DE_109 := Aside0.mk (blk_below DE_108.out hb)
 have DS_109 := Aside0.mk (blk_below DS_108.out hb)
 have DU_109 := Aside0.mk (blk_below DU_108.out hb)
 have Lr_109 := Aside0.mk (Lr_108.out.below hb)
 have Le_109 := Aside0.mk (Le_108.out.below hb)
 have Ls_109 := Aside0.mk (Ls_108.out.below hb)
 have Lu_109 := Aside0.mk (Lu_108.out.below hb)
 have Lz_109 := Aside0.mk (Lz_108.out.below hb)
 clear DR_108 DE_108 DS_108 DU_108 Lr_108 Le_108 Ls_108 Lu_108 Lz_108
 clear hb
 refine hK.out _ _ ⟨(blk_cell DR_109.out 0).trans rfl, (blk_cell DR_109.out 1).trans rfl, (blk_cell DR_109.out 2).trans rfl, (blk_cell DE_109.out 0).trans rfl, (blk_cell DE_109.out 1).trans rfl, (blk_cell DE_109.out 2).trans rfl, (blk_cell DS_109.out 0).trans rfl, (blk_cell DS_109.out 1).trans rfl, (blk_cell DS_109.out 2).trans rfl, (blk_cell DU_109.out 0).trans rfl, (blk_cell DU_109.out 1).trans rfl, (blk_cell DU_109.out 2).trans rfl⟩ (fun hHeld => ?_)
 clear hK K
 refine norm_ (a' := ?_) ?_ ?_
 rotate_left
 ·show Act.put _ (some 52) _ = _
  simp only [Act.put, List.setIfInBounds_toArray, List.set_cons_zero, List.set_cons_succ, i64_w, i32_w]
  rfl
 refine pure_ (i := 26) (N := some 53) (v := ?_) (a' := ?_) #[tt_,tt_,tt_,tt_,tt_,tt_,tt_,tt_,tt_,tt_,tt_,tt_,tt_,tt_,tt_,tt_,tt_,tt_,tt_,tt_,tt_,tt_,tt_,tt_,tt_,tt_,tt_,ff_,ff_,ff_,ff_,ff_,ff_,ff_] rfl rfl (by kernel_rfl) (fun _ _ _ h => h) (Or.inl ⟨by rfl, ?_⟩) ?_ ?_
 rotate_left
 ·intro w'
  go_simp
  with_reducible rfl
 rotate_left
 ·simp only [Act.put, List.setIfInBounds_toArray, List.set_cons_zero, List.set_cons_succ, i64_w, i32_w]
  rfl
 refine pure_ (i := 27) (N := some 54) (v := ?_) (a' := ?_) #[tt_,tt_,tt_,tt_,tt_,tt_,tt_,tt_,tt_,tt_,tt_,tt_,tt_,tt_,tt_,tt_,tt_,tt_,tt_,tt_,tt_,tt_,tt_,tt_,tt_,tt_,tt_,tt_,ff_,ff_,ff_,ff_,ff_,ff_] rfl rfl (by kernel_rfl) (fun _ _ _ h => h) (Or.inl ⟨by rfl, ?_⟩) ?_ ?_
 rotate_left
 ·intro w'
  go_simp
  with_reducible rfl
 rotate_left
 ·simp only [Act.put, List.setIfInBounds_toArray, List.set_cons_zero, List.set_cons_succ, i64_w, i32_w]
  rfl
 refine take_ (i := 28) (N := some 55) (v := ?_) (a' := ?_) #[tt_,tt_,tt_,tt_,tt_,tt_,tt_,tt_,tt_,tt_,tt_,tt_,tt_,tt_,tt_,tt_,tt_,tt_,tt_,tt_,tt_,tt_,tt_,tt_,tt_,tt_,tt_,tt_,tt_,ff_,ff_,ff_,ff_,ff_] rfl rfl (by kernel_rfl) (fun _ _ _ h => h) (Or.inl ⟨by rfl, ?_⟩) hHeld ?_ ?_
 rotate_left
 ·rintro w' ⟨s0, s1, s2, s3, s4, s5, s6, s7, s8, s9, s10, s11⟩
  go_simp
  with_reducible rfl
 rotate_left
 ·simp only [Act.put, List.setIfInBounds_toArray, List.set_cons_zero, List.set_cons_succ, i64_w, i32_w]
  rfl
 refine one_ (i := 29) (N := some 56) #[tt_,tt_,tt_,tt_,tt_,tt_,tt_,tt_,tt_,tt_,tt_,tt_,tt_,tt_,tt_,tt_,tt_,tt_,tt_,tt_,tt_,tt_,tt_,tt_,tt_,tt_,tt_,tt_,tt_,tt_,ff_,ff_,ff_,ff_] rfl rfl (by kernel_rfl) (by decide) (fun K hK => ?_)
 refine lit_step (by rfl) rfl [4194304] (by decide) (by first | (go_simp; done) | (go_simp; rfl)) ?_
 intro gv w110 hl_ hb
 have B_110 := Aside0.mk (below_step B_109.out hb)
 have DR_110 := Aside0.mk (blk_below DR_109.out hb)
 have DE_110 := Aside0.mk (blk_below DE_109.out hb)
 have DS_110 := Aside0.mk (blk_below DS_109.out hb)
 have DU_110 := Aside0.mk (blk_below DU_109.out hb)
 have Lr_110 := Aside0.mk (Lr_109.out.below hb)
 have Le_110 := Aside0.mk (Le_109.out.below hb)
 have Ls_110 := Aside0.mk (Ls_109.out.below hb)
 have Lu_110 := Aside0.mk (Lu_109.out.below hb)
 clear DR_109 DE_109 DS_109 DU_109 Lr_109 Le_109 Ls_109 Lu_109
 have Lv_110 := Aside0.mk (hl_)
 clear hb hl_
 refine hK.out _ _ ⟨(blk_cell DR_110.out 0).trans rfl, (blk_cell DR_110.out 1).trans rfl, (blk_cell DR_110.out 2).trans rfl, (blk_cell DE_110.out 0).trans rfl, (blk_cell DE_110.out 1).trans rfl, (blk_cell DE_110.out 2).trans rfl, (blk_cell DS_110.out 0).trans rfl, (blk_cell DS_110.out 1).trans rfl, (blk_cell DS_110.out 2).trans rfl, (blk_cell DU_110.out 0).trans rfl, (blk_cell DU_110.out 1).trans rfl, (blk_cell DU_110.out 2).trans rfl⟩ (fun hHeld => ?_)
 clear hK K
 refine norm_ (a' := ?_) ?_ ?_
 rotate_left
 ·show Act.put _ (some 56) _ = _
  simp only [Act.put, List.setIfInBounds_toArray, List.set_cons_zero, List.set_cons_succ, i64_w, i32_w]
  rfl
 refine one_ (i := 30) (N := some 57) #[tt_,tt_,tt_,tt_,tt_,tt_,tt_,tt_,tt_,tt_,tt_,tt_,tt_,tt_,tt_,tt_,tt_,tt_,tt_,tt_,tt_,tt_,tt_,tt_,tt_,tt_,tt_,tt_,tt_,tt_,tt_,ff_,ff_,ff_] rfl rfl (by kernel_rfl) (by decide) (fun K hK => ?_)
 refine goes_ Try.func42 (by kernel_rfl) rfl #[.slice (some ⟨gv, 0, none⟩) 1 1] (by rfl) rfl rfl (by (try simp only [List.map_toArray, List.map_cons, List.map_nil]); rfl) ?_
 refine (row1_calls (some ⟨gv, 0, none⟩) 1 _).mono ?_
 rintro e w111 ⟨rfl, hb⟩
 refine ⟨_, rfl, ?_⟩
 have B_111 := Aside0.mk (below_step B_110.out hb)
 have DR_111 := Aside0.mk (blk_below DR_110.out hb)
 have DE_111 := Aside0.mk (blk_below DE_110.out hb)
 have DS_111 := Aside0.mk (blk_below DS_110.out hb)
 have DU_111 := Aside0.mk (blk_below DU_110.out hb)
 have Lr_111 := Aside0.mk (Lr_110.out.below hb)
 have Le_111 := Aside0.mk (Le_110.out.below hb)
 have Ls_111 := Aside0.mk (Ls_110.out.below hb)
 have Lu_111 := Aside0.mk (Lu_110.out.below hb)
 have Lv_111 := Aside0.mk (Lv_110.out.below hb)
 clear DR_110 DE_110 DS_110 DU_110 Lr_110 Le_110 Ls_110 Lu_110 Lv_110
 clear hb
 refine hK.out _ _ ⟨(blk_cell DR_111.out 0).trans rfl, (blk_cell DR_111.out 1).trans rfl, (blk_cell DR_111.out 2).trans rfl, (blk_cell DE_111.out 0).trans rfl, (blk_cell DE_111.out 1).trans rfl, (blk_cell DE_111.out 2).trans rfl, (blk_cell DS_111.out 0).trans rfl, (blk_cell DS_111.out 1).trans rfl, (blk_cell DS_111.out 2).trans rfl, (blk_cell DU_111.out 0).trans rfl, (blk_cell DU_111.out 1).trans rfl, (blk_cell DU_111.out 2).trans rfl⟩ (fun hHeld => ?_)
 clear hK K
 refine norm_ (a' := ?_) ?_ ?_
 rotate_left
 ·show Act.put _ (some 57) _ = _
  simp only [Act.put, List.setIfInBounds_toArray, List.set_cons_zero, List.set_cons_succ, i64_w, i32_w]
  rfl
 refine one_ (i := 31) (N := some 58) #[tt_,tt_,tt_,tt_,tt_,tt_,tt_,tt_,tt_,tt_,tt_,tt_,tt_,tt_,tt_,tt_,tt_,tt_,tt_,tt_,tt_,tt_,tt_,tt_,tt_,tt_,tt_,tt_,tt_,tt_,tt_,tt_,ff_,ff_] rfl rfl (by kernel_rfl) (by decide) (fun K hK => ?_)
 refine goes_ Try.func18 (by kernel_rfl) rfl #[.agg #[.int .i64 1, .int .i64 1, .slice Au 1 cu], .agg #[.int .i64 1, .int .i64 1, .slice (some ⟨gv, 0, none⟩) 1 1]] (by rfl) rfl rfl (by (try simp only [List.map_toArray, List.map_cons, List.map_nil]); rfl) ?_
 refine (same1_k Lu_111.out Lv_111.out).mono ?_
 rintro e w112 ⟨rfl, hb⟩
 refine ⟨_, rfl, ?_⟩
 have B_112 := Aside0.mk (below_step B_111.out hb)
 have DR_112 := Aside0.mk (blk_below DR_111.out hb)
 have DE_112 := Aside0.mk (blk_below DE_111.out hb)
 have DS_112 := Aside0.mk (blk_below DS_111.out hb)
 have DU_112 := Aside0.mk (blk_below DU_111.out hb)
 have Lr_112 := Aside0.mk (Lr_111.out.below hb)
 have Le_112 := Aside0.mk (Le_111.out.below hb)
 have Ls_112 := Aside0.mk (Ls_111.out.below hb)
 have Lu_112 := Aside0.mk (Lu_111.out.below hb)
 have Lv_112 := Aside0.mk (Lv_111.out.below hb)
 clear DR_111 DE_111 DS_111 DU_111 Lr_111 Le_111 Ls_111 Lu_111 Lv_111
 clear hb
 refine hK.out _ _ ⟨(blk_cell DR_112.out 0).trans rfl, (blk_cell DR_112.out 1).trans rfl, (blk_cell DR_112.out 2).trans rfl, (blk_cell DE_112.out 0).trans rfl, (blk_cell DE_112.out 1).trans rfl, (blk_cell DE_112.out 2).trans rfl, (blk_cell DS_112.out 0).trans rfl, (blk_cell DS_112.out 1).trans rfl, (blk_cell DS_112.out 2).trans rfl, (blk_cell DU_112.out 0).trans rfl, (blk_cell DU_112.out 1).trans rfl, (blk_cell DU_112.out 2).trans rfl⟩ (fun hHeld => ?_)
 clear hK K
 refine norm_ (a' := ?_) ?_ ?_
 rotate_left
 ·show Act.put _ (some 58) _ = _
  simp only [Act.put, List.setIfInBounds_toArray, List.set_cons_zero, List.set_cons_succ, i64_w, i32_w]
  rfl
 refine pure_ (i := 32) (N := some 59) (v := ?_) (a' := ?_) #[tt_,tt_,tt_,tt_,tt_,tt_,tt_,tt_,tt_,tt_,tt_,tt_,tt_,tt_,tt_,tt_,tt_,tt_,tt_,tt_,tt_,tt_,tt_,tt_,tt_,tt_,tt_,tt_,tt_,tt_,tt_,tt_,tt_,ff_] rfl rfl (by kernel_rfl) (fun _ _ _ h => h) (Or.inl ⟨by rfl, ?_⟩) ?_ ?_
 rotate_left
 ·intro w'
  go_simp
  with_reducible rfl
 rotate_left
 ·simp only [Act.put, List.setIfInBounds_toArray, List.set_cons_zero, List.set_cons_succ, i64_w, i32_w]
  rfl
 refine pure_ (i := 33) (N := some 0) (v := ?_) (a' := ?_) #[tt_,tt_,tt_,tt_,tt_,tt_,tt_,tt_,tt_,tt_,tt_,tt_,tt_,tt_,tt_,tt_,tt_,tt_,tt_,tt_,tt_,tt_,tt_,tt_,tt_,tt_,tt_,tt_,tt_,tt_,tt_,tt_,tt_,tt_] rfl rfl (by kernel_rfl) (fun _ _ _ h => h) (Or.inl ⟨by rfl, ?_⟩) ?_ ?_
 rotate_left
 ·intro w'
  go_simp
  with_reducible rfl
 rotate_left
 ·simp only [Act.put, List.setIfInBounds_toArray, List.set_cons_zero, List.set_cons_succ, i64_w, i32_w]
  rfl
 refine done_ (by kernel_rfl) ?_
 go_wp2
 go_ret
 exact ⟨rfl, B_112.out⟩
end Go.Proofs.Ytodlgdpkadkjjaa.A
end
section
set_option linter.unusedVariables false
set_option linter.unusedSimpArgs false
namespace Go.Proofs.Ytodlgdpkadkjjaa.A
open Go.RowKit Go.Shelf Go.Proofs.YtodlgdpkadkjjaaW.PrintWords Go.Proofs.YtodlgdpkadkjjaaW.PrintLast Go.Proofs.YtodlgdpkadkjjaaW.PrintMore Go.Proofs.Ytodlgdpkadkjjaa.PPyramidLevels

theorem wf32 {a : Int} (h : (Lit.int .u32 a).wf = true) : ∃ n : Nat, a = n ∧ n < 4294967296 := by
 have : 0 ≤ a ∧ a < 4294967296 := by
  simp only [Lit.wf, Bool.and_eq_true, decide_eq_true_eq, show IntKind.u32.min = 0 from rfl, show IntKind.u32.max = 4294967295 from rfl] at h
  omega
 exact ⟨a.toNat, by omega, by omega⟩
theorem wf64 {a : Int} (h : (Lit.int .i64 a).wf = true) : -9223372036854775808 ≤ a ∧ a < 9223372036854775808 := by
 simp only [Lit.wf, Bool.and_eq_true, decide_eq_true_eq, show IntKind.i64.min = -9223372036854775808 from rfl, show IntKind.i64.max = 9223372036854775807 from rfl] at h
 omega
theorem natRow {k : IntKind} {m : Nat} (hm0 : 0 < m) (hk : ∀ a, (Lit.int k a).wf = true → ∃ n : Nat, a = n ∧ n < m) {w : World} {a : Option Addr} {len cap : Nat} {zs : List Int} (h : (a = none ∧ len = 0 ∧ cap = 0 ∧ zs = []) ∨ ∃ x, a = some x ∧ len ≤ cap ∧ cap ≤ maxLen ∧ zs.length = cap ∧ (∀ i, i < zs.length → w.cell? (x.add i) = some (.int k (zs.getD i 0))) ∧ ∀ n ∈ zs, (Lit.int k n).wf = true) :
    ∃ xs : List Nat, len = xs.length ∧ (nat k).C w a xs.length xs ∧ xs.length ≤ cap ∧ ∀ i, gt xs i < m := by
 obtain ⟨l, rfl, hr, hm, hw, hc⟩ := ReadsInt.ofRowC h
 refine ⟨l.map Int.toNat, by simp, ?_, by simpa using hc, ?_⟩
 ·refine Kd.C_of_reads (d := 0) ⟨rfl, by simpa using hr.2.1, fun hp => ?_⟩
  obtain ⟨ad, e, hx⟩ := hr.2.2 (by simpa using hp)
  refine ⟨ad, e, fun j hj => ?_⟩
  have hj' : j < l.length := by simpa using hj
  obtain ⟨n, hn, _⟩ := hk (l.getD j 0) (hw _ (by rw [List.getD_eq_getElem?_getD, List.getElem?_eq_getElem hj']; exact List.getElem_mem hj'))
  rw [hx j hj', hn]
  rw [List.getD_eq_getElem?_getD, List.getElem?_eq_getElem hj'] at hn
  simp only [Option.getD_some] at hn
  simp [List.getElem?_eq_getElem hj', hn]
 ·intro i
  unfold gt
  rw [List.getD_eq_getElem?_getD, List.getElem?_map]
  by_cases hi : i < l.length
  ·obtain ⟨n, hn, hlt⟩ := hk l[i] (hw _ (List.getElem_mem hi))
   rw [List.getElem?_eq_getElem hi, hn]
   simpa using hlt
  ·rw [List.getElem?_eq_none (by omega)]; exact hm0
section
variable {ops : Array Oper} {Q : Exit → Act → World → Prop} {o : Oper} {rest : List Oper} {a : Act}
/-- a plane is loaded out of its box, guarded or not -/
theorem loadP_g {W : World} {p : Operand} (ho : o.op = .load 25 p) (hw : Region.wanted o (yielded ops a.tmps) = true) (g : Nat) (x y z : Value) (hp : a.eval p = .pointer (some ⟨g, 0, none⟩)) (hg : W.heap[g]? = some (.cells #[x, y, z] 25 (0, 0)))
    (h : wpList Try.prog ops Q rest (a.put o.dst (.agg #[x, y, z])) W) : wpList Try.prog ops Q (o :: rest) a W := by
 refine wpList_step fun K hK => ?_
 rw [if_pos hw]
 have hu25 := Try.underlying25
 have p0 := (blk_cell hg 0).trans rfl
 have p1 := (blk_cell hg 1).trans rfl
 have p2 := (blk_cell hg 2).trans rfl
 have hr : (execOp a.eval o).run Try.prog W = .ok (.value (.agg #[x, y, z])) W := by
  unfold execOp
  simp only [ho, hp]
  go_simp
 unfold Oper.wp
 rw [hr]
 exact hK _ _ h
end
section
variable {W H n c : Nat} {A : Option Addr} {xs : List Nat} {w : World}
end
end Go.Proofs.Ytodlgdpkadkjjaa.A
end
section
set_option linter.unusedVariables false
set_option linter.unusedSimpArgs false
namespace Go.Proofs.Ytodlgdpkadkjjaa.A
open Go.RowKit Go.Shelf Go.Proofs.YtodlgdpkadkjjaaW.PrintWords Go.Proofs.YtodlgdpkadkjjaaW.PrintLast Go.Proofs.YtodlgdpkadkjjaaW.PrintMore Go.Proofs.Ytodlgdpkadkjjaa.PPyramidLevels

theorem PL.lt {w : World} {A : Option Addr} {n c : Nat} {xs : List Nat} (h : PL w A n c xs) : n < 9223372036854775808 := by have := Kd.C_max h.1; omega
end Go.Proofs.Ytodlgdpkadkjjaa.A
end
