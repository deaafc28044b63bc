import Derived.Test.YtkicfaboibfbpaaV2
import Derived.ChangeSlices
import Derived.Deep.Slices
import Derived.Lib.SliceRun
import Derived.Lib.SmallJoins
import Derived.SizedLaws
import Derived.Test.YtkicfaboibfbpaaRows
import Derived.WalkSpells
section
set_option linter.unusedVariables false
set_option linter.unusedSimpArgs false
namespace Go.Proofs.Ytkicfaboibfbpaa.A
open Go.RowKit Go.Proofs.YtkicfaboibfbpaaW.PrintWords Go.Proofs.YtkicfaboibfbpaaW.PrintLast Go.Proofs.YtkicfaboibfbpaaW.PrintMore Go.Proofs.Ytkicfaboibfbpaa.PCurveAts
set_option maxHeartbeats 4000000 in
theorem reachesc_calls (g x y : Nat) (F : Nat → Nat) (w : World) (hx : x < 4294967296) (hy : y < 4294967296) (hF : ∀ x, x < 4294967296 → F x < 4294967296) (hA : ∀ (W : World) (x : Nat), x < 4294967296 → Below w.heap.size w W → Calls Try.prog 17 #[.pointer (some ⟨g, 0, none⟩), .int .u32 (x : Int)] W fun e w' => e = .returned (.int .u32 ((F x : Nat) : Int)) ∧ Below W.heap.size W w') :
    Calls Try.prog 60 #[.iface 26 (.pointer (some ⟨g, 0, none⟩)), .int .u32 (x : Int), .int .u32 (y : Int)] w fun e w' => e = .returned (.bool (rch F x y)) ∧ Below w.heap.size w w' := by
 have HA := Aside0.mk hA
 have HX := Aside0.mk hx
 have HY := Aside0.mk hy
 have HV : Aside0 (F x < 4294967296) := ⟨hF x hx⟩
 have B_0 : Aside0 (Below w.heap.size w w) := ⟨Below.refl _ _⟩
 have hm : ∀ w, (method 213 26 (.pointer (some ⟨g, 0, none⟩)) "At").run Try.prog w = .ok (17, .pointer (some ⟨g, 0, none⟩)) w := fun _ => by kernel_rfl
 have hn : ∀ w, (nilAhead 213 26 (.pointer (some ⟨g, 0, none⟩)) "At").run Try.prog w = .ok (some false) w := fun _ => by kernel_rfl
 clear hA hx hy hF
 unfold rch
 cases c1 : lt y (F x)
 ·rw [Bool.false_or]
  go_enter Try.func60, Try.ntmps60
  go_wp2_with (first | (go_at_call 17; (with_reducible refine (HA.out _ x HX.out (Below.refl _ _)).mono ?_); rintro e w1 ⟨rfl, hb⟩; have B_1 := Aside0.mk (below_step B_0.out hb); clear hb) | (go_at_call 45; with_reducible refine (Less_calls y (F x) HY.out HV.out _).mono ?_; rw [c1]; rintro e _ ⟨rfl, rfl⟩) | (go_at_call 48; with_reducible refine (Equal_calls y (F x) HY.out HV.out _).mono ?_; rintro e _ ⟨rfl, rfl⟩))
  go_ret
  exact ⟨rfl, B_1.out⟩
 ·rw [Bool.true_or]
  go_enter Try.func60, Try.ntmps60
  go_wp2_with (first | (go_at_call 17; (with_reducible refine (HA.out _ x HX.out (Below.refl _ _)).mono ?_); rintro e w1 ⟨rfl, hb⟩; have B_1 := Aside0.mk (below_step B_0.out hb); clear hb) | (go_at_call 45; with_reducible refine (Less_calls y (F x) HY.out HV.out _).mono ?_; rw [c1]; rintro e _ ⟨rfl, rfl⟩))
  go_ret
  exact ⟨rfl, B_1.out⟩
set_option maxHeartbeats 8000000 in
theorem provedc_calls (g lo hi y X B : Nat) (H : Bool) (F : Nat → Nat) (w : World) (hlo : lo < 4294967296) (hhi : hi < 4294967296) (hy : y < 4294967296) (hX : X < 4294967296) (hF : ∀ x, x < 4294967296 → F x < 4294967296) (hA : ∀ (W : World) (x : Nat), x < 4294967296 → Below w.heap.size w W → Calls Try.prog 17 #[.pointer (some ⟨g, 0, none⟩), .int .u32 (x : Int)] W fun e w' => e = .returned (.int .u32 ((F x : Nat) : Int)) ∧ Below W.heap.size W w') :
    Calls Try.prog 42 #[.iface 26 (.pointer (some ⟨g, 0, none⟩)), .int .u32 (lo : Int), .int .u32 (hi : Int), .int .u32 (y : Int), .agg #[.int .u32 (X : Int), .int .u32 (B : Int), .bool H]] w fun e w' => e = .returned (.bool (ckP F lo hi y ⟨X, B, H⟩)) ∧ Below w.heap.size w w' := by
 have HA := Aside0.mk hA
 have HF := Aside0.mk hF
 have HX := Aside0.mk hX
 have HY := Aside0.mk hy
 have HLO := Aside0.mk hlo
 have HHI := Aside0.mk hhi
 unfold ckP
 simp only
 have B_0 : Aside0 (Below w.heap.size w w) := ⟨Below.refl _ _⟩
 clear hA hF hX hy hlo hhi
 cases c0 : isnan y
 ·rw [if_neg (show ¬ (false = true) by decide)]
  by_cases d1 : kf X < kf lo
  ·have c1 := decide_eq_true d1
   rw [if_pos d1]
   clear d1
   go_enter Try.func42, Try.ntmps42
   go_wp2_with (first | ((with_reducible refine gate_dst (N := 9) rfl ?_); refine box_event ?hg (N := 9) ?hd (cs := #[.int .u32 (X : Int), .int .u32 (B : Int), .bool H]) (t := 32) ?hr ?_; (case hd => rfl); (case hg => rfl); (case hr => first | (go_simp; done) | (go_simp; rfl)); intro gp hg_ w1 hm_ hb_; have GP := Aside0.mk (show w.heap.size ≤ gp by rw [hg_]; exact B_0.out.size); have B_1 := Aside0.mk (below_step B_0.out hb_); have P_1 := Aside0.mk (hm_); have cP0 := (blk_cell P_1.out 0).trans rfl; have cP1 := (blk_cell P_1.out 1).trans rfl; have cP2 := (blk_cell P_1.out 2).trans rfl; clear hm_ hb_ hg_) | (go_at_call 44; (with_reducible refine (IsNaN_calls y HY.out _).mono ?_); rw [c0]; rintro e w2 ⟨rfl, hb⟩; clear cP0 cP1 cP2; have B_2 := Aside0.mk (below_step B_1.out hb); have P_2 := Aside0.mk (blk_below P_1.out hb); clear P_1; have cP0 := (blk_cell P_2.out 0).trans rfl; have cP1 := (blk_cell P_2.out 1).trans rfl; have cP2 := (blk_cell P_2.out 2).trans rfl; clear hb) | (go_at_call 59; (with_reducible refine (Before_calls X lo HX.out HLO.out _).mono ?_); rw [c1]; rintro e w3 ⟨rfl, hd⟩; have hb := hd.below; clear hd; clear cP0 cP1 cP2; have B_3 := Aside0.mk (below_step B_2.out hb); have P_3 := Aside0.mk (blk_below P_2.out hb); clear P_2; have cP0 := (blk_cell P_3.out 0).trans rfl; have cP1 := (blk_cell P_3.out 1).trans rfl; have cP2 := (blk_cell P_3.out 2).trans rfl; clear hb))
   go_ret
   exact ⟨rfl, B_3.out⟩
  have c1 := decide_eq_false d1
  rw [if_neg d1]
  clear d1
  by_cases d2 : kf hi < kf X
  ·have c2 := decide_eq_true d2
   rw [if_pos d2]
   clear d2
   go_enter Try.func42, Try.ntmps42
   go_wp2_with (first | ((with_reducible refine gate_dst (N := 9) rfl ?_); refine box_event ?hg (N := 9) ?hd (cs := #[.int .u32 (X : Int), .int .u32 (B : Int), .bool H]) (t := 32) ?hr ?_; (case hd => rfl); (case hg => rfl); (case hr => first | (go_simp; done) | (go_simp; rfl)); intro gp hg_ w1 hm_ hb_; have GP := Aside0.mk (show w.heap.size ≤ gp by rw [hg_]; exact B_0.out.size); have B_1 := Aside0.mk (below_step B_0.out hb_); have P_1 := Aside0.mk (hm_); have cP0 := (blk_cell P_1.out 0).trans rfl; have cP1 := (blk_cell P_1.out 1).trans rfl; have cP2 := (blk_cell P_1.out 2).trans rfl; clear hm_ hb_ hg_) | (go_at_call 44; (with_reducible refine (IsNaN_calls y HY.out _).mono ?_); rw [c0]; rintro e w2 ⟨rfl, hb⟩; clear cP0 cP1 cP2; have B_2 := Aside0.mk (below_step B_1.out hb); have P_2 := Aside0.mk (blk_below P_1.out hb); clear P_1; have cP0 := (blk_cell P_2.out 0).trans rfl; have cP1 := (blk_cell P_2.out 1).trans rfl; have cP2 := (blk_cell P_2.out 2).trans rfl; clear hb) | (go_at_call 59; (with_reducible refine (Before_calls X lo HX.out HLO.out _).mono ?_); rw [c1]; rintro e w3 ⟨rfl, hd⟩; have hb := hd.below; clear hd; clear cP0 cP1 cP2; have B_3 := Aside0.mk (below_step B_2.out hb); have P_3 := Aside0.mk (blk_below P_2.out hb); clear P_2; have cP0 := (blk_cell P_3.out 0).trans rfl; have cP1 := (blk_cell P_3.out 1).trans rfl; have cP2 := (blk_cell P_3.out 2).trans rfl; clear hb) | (go_at_call 59; (with_reducible refine (Before_calls hi X HHI.out HX.out _).mono ?_); rw [c2]; rintro e w4 ⟨rfl, hd⟩; have hb := hd.below; clear hd; clear cP0 cP1 cP2; have B_4 := Aside0.mk (below_step B_3.out hb); have P_4 := Aside0.mk (blk_below P_3.out hb); clear P_3; have cP0 := (blk_cell P_4.out 0).trans rfl; have cP1 := (blk_cell P_4.out 1).trans rfl; have cP2 := (blk_cell P_4.out 2).trans rfl; clear hb))
   go_ret
   exact ⟨rfl, B_4.out⟩
  have c2 := decide_eq_false d2
  rw [if_neg d2]
  clear d2
  cases c3 : rch F X y
  ·rw [if_pos rfl]
   go_enter Try.func42, Try.ntmps42
   go_wp2_with (first | ((with_reducible refine gate_dst (N := 9) rfl ?_); refine box_event ?hg (N := 9) ?hd (cs := #[.int .u32 (X : Int), .int .u32 (B : Int), .bool H]) (t := 32) ?hr ?_; (case hd => rfl); (case hg => rfl); (case hr => first | (go_simp; done) | (go_simp; rfl)); intro gp hg_ w1 hm_ hb_; have GP := Aside0.mk (show w.heap.size ≤ gp by rw [hg_]; exact B_0.out.size); have B_1 := Aside0.mk (below_step B_0.out hb_); have P_1 := Aside0.mk (hm_); have cP0 := (blk_cell P_1.out 0).trans rfl; have cP1 := (blk_cell P_1.out 1).trans rfl; have cP2 := (blk_cell P_1.out 2).trans rfl; clear hm_ hb_ hg_) | (go_at_call 44; (with_reducible refine (IsNaN_calls y HY.out _).mono ?_); rw [c0]; rintro e w2 ⟨rfl, hb⟩; clear cP0 cP1 cP2; have B_2 := Aside0.mk (below_step B_1.out hb); have P_2 := Aside0.mk (blk_below P_1.out hb); clear P_1; have cP0 := (blk_cell P_2.out 0).trans rfl; have cP1 := (blk_cell P_2.out 1).trans rfl; have cP2 := (blk_cell P_2.out 2).trans rfl; clear hb) | (go_at_call 59; (with_reducible refine (Before_calls X lo HX.out HLO.out _).mono ?_); rw [c1]; rintro e w3 ⟨rfl, hd⟩; have hb := hd.below; clear hd; clear cP0 cP1 cP2; have B_3 := Aside0.mk (below_step B_2.out hb); have P_3 := Aside0.mk (blk_below P_2.out hb); clear P_2; have cP0 := (blk_cell P_3.out 0).trans rfl; have cP1 := (blk_cell P_3.out 1).trans rfl; have cP2 := (blk_cell P_3.out 2).trans rfl; clear hb) | (go_at_call 59; (with_reducible refine (Before_calls hi X HHI.out HX.out _).mono ?_); rw [c2]; rintro e w4 ⟨rfl, hd⟩; have hb := hd.below; clear hd; clear cP0 cP1 cP2; have B_4 := Aside0.mk (below_step B_3.out hb); have P_4 := Aside0.mk (blk_below P_3.out hb); clear P_3; have cP0 := (blk_cell P_4.out 0).trans rfl; have cP1 := (blk_cell P_4.out 1).trans rfl; have cP2 := (blk_cell P_4.out 2).trans rfl; clear hb) | (go_at_call 60; (with_reducible refine (reachesc_calls g X y F _ HX.out HY.out HF.out (fun W2 x hx h2 => HA.out W2 x hx (B_4.out.trans (h2.mono B_4.out.size)))).mono ?_); rw [c3]; rintro e w5 ⟨rfl, hb⟩; clear cP0 cP1 cP2; have B_5 := Aside0.mk (below_step B_4.out hb); have P_5 := Aside0.mk (blk_below P_4.out hb); clear P_4; have cP0 := (blk_cell P_5.out 0).trans rfl; have cP1 := (blk_cell P_5.out 1).trans rfl; have cP2 := (blk_cell P_5.out 2).trans rfl; clear hb))
   go_ret
   exact ⟨rfl, B_5.out⟩
  rw [if_neg (show ¬ (true = false) by decide)]
  have main : ∀ b : Bool, ((X : Int) != (lo : Int)) = b → decide (X ≠ lo) = b → Calls Try.prog 42 #[.iface 26 (.pointer (some ⟨g, 0, none⟩)), .int .u32 (lo : Int), .int .u32 (hi : Int), .int .u32 (y : Int), .agg #[.int .u32 (X : Int), .int .u32 (B : Int), .bool H]] w fun e w' => e = .returned (.bool (if H ≠ decide (X ≠ lo) then false
 else if H = false then decide (B = 0) else decide (kf X ≠ 0) && (decide (B = (if kf X = 0 then 0 else fk (kf X - 1))) && !rch F (if kf X = 0 then 0 else fk (kf X - 1)) y))) ∧ Below w.heap.size w w' := by
     intro b e1 e2
     rw [e2]
     clear e2
     cases b <;> cases H
     ·rw [if_neg (show ¬ (false ≠ false) from fun h => h rfl), if_pos rfl]
      have e4 : ((B : Int) == 0) = decide (B = 0) := by rw [Bool.eq_iff_iff, beq_iff_eq, decide_eq_true_iff]; omega
      rw [← e4]
      clear e4
      go_enter Try.func42, Try.ntmps42
      go_wp2_with (first | ((with_reducible refine gate_dst (N := 9) rfl ?_); refine box_event ?hg (N := 9) ?hd (cs := #[.int .u32 (X : Int), .int .u32 (B : Int), .bool false]) (t := 32) ?hr ?_; (case hd => rfl); (case hg => rfl); (case hr => first | (go_simp; done) | (go_simp; rfl)); intro gp hg_ w1 hm_ hb_; have GP := Aside0.mk (show w.heap.size ≤ gp by rw [hg_]; exact B_0.out.size); have B_1 := Aside0.mk (below_step B_0.out hb_); have P_1 := Aside0.mk (hm_); have cP0 := (blk_cell P_1.out 0).trans rfl; have cP1 := (blk_cell P_1.out 1).trans rfl; have cP2 := (blk_cell P_1.out 2).trans rfl; clear hm_ hb_ hg_) | (go_at_call 44; (with_reducible refine (IsNaN_calls y HY.out _).mono ?_); rw [c0]; rintro e w2 ⟨rfl, hb⟩; clear cP0 cP1 cP2; have B_2 := Aside0.mk (below_step B_1.out hb); have P_2 := Aside0.mk (blk_below P_1.out hb); clear P_1; have cP0 := (blk_cell P_2.out 0).trans rfl; have cP1 := (blk_cell P_2.out 1).trans rfl; have cP2 := (blk_cell P_2.out 2).trans rfl; clear hb) | (go_at_call 59; (with_reducible refine (Before_calls X lo HX.out HLO.out _).mono ?_); rw [c1]; rintro e w3 ⟨rfl, hd⟩; have hb := hd.below; clear hd; clear cP0 cP1 cP2; have B_3 := Aside0.mk (below_step B_2.out hb); have P_3 := Aside0.mk (blk_below P_2.out hb); clear P_2; have cP0 := (blk_cell P_3.out 0).trans rfl; have cP1 := (blk_cell P_3.out 1).trans rfl; have cP2 := (blk_cell P_3.out 2).trans rfl; clear hb) | (go_at_call 59; (with_reducible refine (Before_calls hi X HHI.out HX.out _).mono ?_); rw [c2]; rintro e w4 ⟨rfl, hd⟩; have hb := hd.below; clear hd; clear cP0 cP1 cP2; have B_4 := Aside0.mk (below_step B_3.out hb); have P_4 := Aside0.mk (blk_below P_3.out hb); clear P_3; have cP0 := (blk_cell P_4.out 0).trans rfl; have cP1 := (blk_cell P_4.out 1).trans rfl; have cP2 := (blk_cell P_4.out 2).trans rfl; clear hb) | (go_at_call 60; (with_reducible refine (reachesc_calls g X y F _ HX.out HY.out HF.out (fun W2 x hx h2 => HA.out W2 x hx (B_4.out.trans (h2.mono B_4.out.size)))).mono ?_); rw [c3]; rintro e w5 ⟨rfl, hb⟩; clear cP0 cP1 cP2; have B_5 := Aside0.mk (below_step B_4.out hb); have P_5 := Aside0.mk (blk_below P_4.out hb); clear P_4; have cP0 := (blk_cell P_5.out 0).trans rfl; have cP1 := (blk_cell P_5.out 1).trans rfl; have cP2 := (blk_cell P_5.out 2).trans rfl; clear hb))
      go_ret
      exact ⟨rfl, B_5.out⟩
     ·rw [if_pos (show true ≠ false by decide)]
      go_enter Try.func42, Try.ntmps42
      go_wp2_with (first | ((with_reducible refine gate_dst (N := 9) rfl ?_); refine box_event ?hg (N := 9) ?hd (cs := #[.int .u32 (X : Int), .int .u32 (B : Int), .bool true]) (t := 32) ?hr ?_; (case hd => rfl); (case hg => rfl); (case hr => first | (go_simp; done) | (go_simp; rfl)); intro gp hg_ w1 hm_ hb_; have GP := Aside0.mk (show w.heap.size ≤ gp by rw [hg_]; exact B_0.out.size); have B_1 := Aside0.mk (below_step B_0.out hb_); have P_1 := Aside0.mk (hm_); have cP0 := (blk_cell P_1.out 0).trans rfl; have cP1 := (blk_cell P_1.out 1).trans rfl; have cP2 := (blk_cell P_1.out 2).trans rfl; clear hm_ hb_ hg_) | (go_at_call 44; (with_reducible refine (IsNaN_calls y HY.out _).mono ?_); rw [c0]; rintro e w2 ⟨rfl, hb⟩; clear cP0 cP1 cP2; have B_2 := Aside0.mk (below_step B_1.out hb); have P_2 := Aside0.mk (blk_below P_1.out hb); clear P_1; have cP0 := (blk_cell P_2.out 0).trans rfl; have cP1 := (blk_cell P_2.out 1).trans rfl; have cP2 := (blk_cell P_2.out 2).trans rfl; clear hb) | (go_at_call 59; (with_reducible refine (Before_calls X lo HX.out HLO.out _).mono ?_); rw [c1]; rintro e w3 ⟨rfl, hd⟩; have hb := hd.below; clear hd; clear cP0 cP1 cP2; have B_3 := Aside0.mk (below_step B_2.out hb); have P_3 := Aside0.mk (blk_below P_2.out hb); clear P_2; have cP0 := (blk_cell P_3.out 0).trans rfl; have cP1 := (blk_cell P_3.out 1).trans rfl; have cP2 := (blk_cell P_3.out 2).trans rfl; clear hb) | (go_at_call 59; (with_reducible refine (Before_calls hi X HHI.out HX.out _).mono ?_); rw [c2]; rintro e w4 ⟨rfl, hd⟩; have hb := hd.below; clear hd; clear cP0 cP1 cP2; have B_4 := Aside0.mk (below_step B_3.out hb); have P_4 := Aside0.mk (blk_below P_3.out hb); clear P_3; have cP0 := (blk_cell P_4.out 0).trans rfl; have cP1 := (blk_cell P_4.out 1).trans rfl; have cP2 := (blk_cell P_4.out 2).trans rfl; clear hb) | (go_at_call 60; (with_reducible refine (reachesc_calls g X y F _ HX.out HY.out HF.out (fun W2 x hx h2 => HA.out W2 x hx (B_4.out.trans (h2.mono B_4.out.size)))).mono ?_); rw [c3]; rintro e w5 ⟨rfl, hb⟩; clear cP0 cP1 cP2; have B_5 := Aside0.mk (below_step B_4.out hb); have P_5 := Aside0.mk (blk_below P_4.out hb); clear P_4; have cP0 := (blk_cell P_5.out 0).trans rfl; have cP1 := (blk_cell P_5.out 1).trans rfl; have cP2 := (blk_cell P_5.out 2).trans rfl; clear hb))
      go_ret
      exact ⟨rfl, B_5.out⟩
     ·rw [if_pos (show false ≠ true by decide)]
      go_enter Try.func42, Try.ntmps42
      go_wp2_with (first | ((with_reducible refine gate_dst (N := 9) rfl ?_); refine box_event ?hg (N := 9) ?hd (cs := #[.int .u32 (X : Int), .int .u32 (B : Int), .bool false]) (t := 32) ?hr ?_; (case hd => rfl); (case hg => rfl); (case hr => first | (go_simp; done) | (go_simp; rfl)); intro gp hg_ w1 hm_ hb_; have GP := Aside0.mk (show w.heap.size ≤ gp by rw [hg_]; exact B_0.out.size); have B_1 := Aside0.mk (below_step B_0.out hb_); have P_1 := Aside0.mk (hm_); have cP0 := (blk_cell P_1.out 0).trans rfl; have cP1 := (blk_cell P_1.out 1).trans rfl; have cP2 := (blk_cell P_1.out 2).trans rfl; clear hm_ hb_ hg_) | (go_at_call 44; (with_reducible refine (IsNaN_calls y HY.out _).mono ?_); rw [c0]; rintro e w2 ⟨rfl, hb⟩; clear cP0 cP1 cP2; have B_2 := Aside0.mk (below_step B_1.out hb); have P_2 := Aside0.mk (blk_below P_1.out hb); clear P_1; have cP0 := (blk_cell P_2.out 0).trans rfl; have cP1 := (blk_cell P_2.out 1).trans rfl; have cP2 := (blk_cell P_2.out 2).trans rfl; clear hb) | (go_at_call 59; (with_reducible refine (Before_calls X lo HX.out HLO.out _).mono ?_); rw [c1]; rintro e w3 ⟨rfl, hd⟩; have hb := hd.below; clear hd; clear cP0 cP1 cP2; have B_3 := Aside0.mk (below_step B_2.out hb); have P_3 := Aside0.mk (blk_below P_2.out hb); clear P_2; have cP0 := (blk_cell P_3.out 0).trans rfl; have cP1 := (blk_cell P_3.out 1).trans rfl; have cP2 := (blk_cell P_3.out 2).trans rfl; clear hb) | (go_at_call 59; (with_reducible refine (Before_calls hi X HHI.out HX.out _).mono ?_); rw [c2]; rintro e w4 ⟨rfl, hd⟩; have hb := hd.below; clear hd; clear cP0 cP1 cP2; have B_4 := Aside0.mk (below_step B_3.out hb); have P_4 := Aside0.mk (blk_below P_3.out hb); clear P_3; have cP0 := (blk_cell P_4.out 0).trans rfl; have cP1 := (blk_cell P_4.out 1).trans rfl; have cP2 := (blk_cell P_4.out 2).trans rfl; clear hb) | (go_at_call 60; (with_reducible refine (reachesc_calls g X y F _ HX.out HY.out HF.out (fun W2 x hx h2 => HA.out W2 x hx (B_4.out.trans (h2.mono B_4.out.size)))).mono ?_); rw [c3]; rintro e w5 ⟨rfl, hb⟩; clear cP0 cP1 cP2; have B_5 := Aside0.mk (below_step B_4.out hb); have P_5 := Aside0.mk (blk_below P_4.out hb); clear P_4; have cP0 := (blk_cell P_5.out 0).trans rfl; have cP1 := (blk_cell P_5.out 1).trans rfl; have cP2 := (blk_cell P_5.out 2).trans rfl; clear hb))
      go_ret
      exact ⟨rfl, B_5.out⟩
     ·rw [if_neg (show ¬ (true ≠ true) from fun h => h rfl), if_neg (show ¬ (true = false) by decide)]
      obtain ⟨q, hq⟩ : ∃ q, (if kf X = 0 then 0 else fk (kf X - 1)) = q := ⟨_, rfl⟩
      have HQ : Aside0 (q < 4294967296) := ⟨by
       rw [← hq]
       have := kf_word HX.out
       split
       ·decide
       ·exact fk_word (by omega)⟩
      have hpv := hq
      rw [hq]
      have e4 : ((B : Int) == (q : Int)) = decide (B = q) := by rw [Bool.eq_iff_iff, beq_iff_eq, decide_eq_true_iff]; omega
      rw [← e4]
      clear e4 hq
      obtain ⟨t1, h1⟩ : ∃ t, decide (kf X ≠ 0) = t := ⟨_, rfl⟩
      obtain ⟨t2, h2⟩ : ∃ t, ((B : Int) == (q : Int)) = t := ⟨_, rfl⟩
      rw [h1, h2]
      cases t1
      ·go_enter Try.func42, Try.ntmps42
       go_wp2_with (first | ((with_reducible refine gate_dst (N := 9) rfl ?_); refine box_event ?hg (N := 9) ?hd (cs := #[.int .u32 (X : Int), .int .u32 (B : Int), .bool true]) (t := 32) ?hr ?_; (case hd => rfl); (case hg => rfl); (case hr => first | (go_simp; done) | (go_simp; rfl)); intro gp hg_ w1 hm_ hb_; have GP := Aside0.mk (show w.heap.size ≤ gp by rw [hg_]; exact B_0.out.size); have B_1 := Aside0.mk (below_step B_0.out hb_); have P_1 := Aside0.mk (hm_); have cP0 := (blk_cell P_1.out 0).trans rfl; have cP1 := (blk_cell P_1.out 1).trans rfl; have cP2 := (blk_cell P_1.out 2).trans rfl; clear hm_ hb_ hg_) | (go_at_call 44; (with_reducible refine (IsNaN_calls y HY.out _).mono ?_); rw [c0]; rintro e w2 ⟨rfl, hb⟩; clear cP0 cP1 cP2; have B_2 := Aside0.mk (below_step B_1.out hb); have P_2 := Aside0.mk (blk_below P_1.out hb); clear P_1; have cP0 := (blk_cell P_2.out 0).trans rfl; have cP1 := (blk_cell P_2.out 1).trans rfl; have cP2 := (blk_cell P_2.out 2).trans rfl; clear hb) | (go_at_call 59; (with_reducible refine (Before_calls X lo HX.out HLO.out _).mono ?_); rw [c1]; rintro e w3 ⟨rfl, hd⟩; have hb := hd.below; clear hd; clear cP0 cP1 cP2; have B_3 := Aside0.mk (below_step B_2.out hb); have P_3 := Aside0.mk (blk_below P_2.out hb); clear P_2; have cP0 := (blk_cell P_3.out 0).trans rfl; have cP1 := (blk_cell P_3.out 1).trans rfl; have cP2 := (blk_cell P_3.out 2).trans rfl; clear hb) | (go_at_call 59; (with_reducible refine (Before_calls hi X HHI.out HX.out _).mono ?_); rw [c2]; rintro e w4 ⟨rfl, hd⟩; have hb := hd.below; clear hd; clear cP0 cP1 cP2; have B_4 := Aside0.mk (below_step B_3.out hb); have P_4 := Aside0.mk (blk_below P_3.out hb); clear P_3; have cP0 := (blk_cell P_4.out 0).trans rfl; have cP1 := (blk_cell P_4.out 1).trans rfl; have cP2 := (blk_cell P_4.out 2).trans rfl; clear hb) | (go_at_call 60; (with_reducible refine (reachesc_calls g X y F _ HX.out HY.out HF.out (fun W2 x hx h2 => HA.out W2 x hx (B_4.out.trans (h2.mono B_4.out.size)))).mono ?_); rw [c3]; rintro e w5 ⟨rfl, hb⟩; clear cP0 cP1 cP2; have B_5 := Aside0.mk (below_step B_4.out hb); have P_5 := Aside0.mk (blk_below P_4.out hb); clear P_4; have cP0 := (blk_cell P_5.out 0).trans rfl; have cP1 := (blk_cell P_5.out 1).trans rfl; have cP2 := (blk_cell P_5.out 2).trans rfl; clear hb) | (go_at_call 58; (with_reducible refine (Prev_calls X HX.out _).mono ?_); rw [hpv]; rintro e w6 ⟨rfl, hd⟩; have hb := hd.below; clear hd; clear cP0 cP1 cP2; have B_6 := Aside0.mk (below_step B_5.out hb); have P_6 := Aside0.mk (blk_below P_5.out hb); clear P_5; have cP0 := (blk_cell P_6.out 0).trans rfl; have cP1 := (blk_cell P_6.out 1).trans rfl; have cP2 := (blk_cell P_6.out 2).trans rfl; clear hb))
       go_ret
       exact ⟨rfl, B_6.out⟩
      cases t2
      ·go_enter Try.func42, Try.ntmps42
       go_wp2_with (first | ((with_reducible refine gate_dst (N := 9) rfl ?_); refine box_event ?hg (N := 9) ?hd (cs := #[.int .u32 (X : Int), .int .u32 (B : Int), .bool true]) (t := 32) ?hr ?_; (case hd => rfl); (case hg => rfl); (case hr => first | (go_simp; done) | (go_simp; rfl)); intro gp hg_ w1 hm_ hb_; have GP := Aside0.mk (show w.heap.size ≤ gp by rw [hg_]; exact B_0.out.size); have B_1 := Aside0.mk (below_step B_0.out hb_); have P_1 := Aside0.mk (hm_); have cP0 := (blk_cell P_1.out 0).trans rfl; have cP1 := (blk_cell P_1.out 1).trans rfl; have cP2 := (blk_cell P_1.out 2).trans rfl; clear hm_ hb_ hg_) | (go_at_call 44; (with_reducible refine (IsNaN_calls y HY.out _).mono ?_); rw [c0]; rintro e w2 ⟨rfl, hb⟩; clear cP0 cP1 cP2; have B_2 := Aside0.mk (below_step B_1.out hb); have P_2 := Aside0.mk (blk_below P_1.out hb); clear P_1; have cP0 := (blk_cell P_2.out 0).trans rfl; have cP1 := (blk_cell P_2.out 1).trans rfl; have cP2 := (blk_cell P_2.out 2).trans rfl; clear hb) | (go_at_call 59; (with_reducible refine (Before_calls X lo HX.out HLO.out _).mono ?_); rw [c1]; rintro e w3 ⟨rfl, hd⟩; have hb := hd.below; clear hd; clear cP0 cP1 cP2; have B_3 := Aside0.mk (below_step B_2.out hb); have P_3 := Aside0.mk (blk_below P_2.out hb); clear P_2; have cP0 := (blk_cell P_3.out 0).trans rfl; have cP1 := (blk_cell P_3.out 1).trans rfl; have cP2 := (blk_cell P_3.out 2).trans rfl; clear hb) | (go_at_call 59; (with_reducible refine (Before_calls hi X HHI.out HX.out _).mono ?_); rw [c2]; rintro e w4 ⟨rfl, hd⟩; have hb := hd.below; clear hd; clear cP0 cP1 cP2; have B_4 := Aside0.mk (below_step B_3.out hb); have P_4 := Aside0.mk (blk_below P_3.out hb); clear P_3; have cP0 := (blk_cell P_4.out 0).trans rfl; have cP1 := (blk_cell P_4.out 1).trans rfl; have cP2 := (blk_cell P_4.out 2).trans rfl; clear hb) | (go_at_call 60; (with_reducible refine (reachesc_calls g X y F _ HX.out HY.out HF.out (fun W2 x hx h2 => HA.out W2 x hx (B_4.out.trans (h2.mono B_4.out.size)))).mono ?_); rw [c3]; rintro e w5 ⟨rfl, hb⟩; clear cP0 cP1 cP2; have B_5 := Aside0.mk (below_step B_4.out hb); have P_5 := Aside0.mk (blk_below P_4.out hb); clear P_4; have cP0 := (blk_cell P_5.out 0).trans rfl; have cP1 := (blk_cell P_5.out 1).trans rfl; have cP2 := (blk_cell P_5.out 2).trans rfl; clear hb) | (go_at_call 58; (with_reducible refine (Prev_calls X HX.out _).mono ?_); rw [hpv]; rintro e w6 ⟨rfl, hd⟩; have hb := hd.below; clear hd; clear cP0 cP1 cP2; have B_6 := Aside0.mk (below_step B_5.out hb); have P_6 := Aside0.mk (blk_below P_5.out hb); clear P_5; have cP0 := (blk_cell P_6.out 0).trans rfl; have cP1 := (blk_cell P_6.out 1).trans rfl; have cP2 := (blk_cell P_6.out 2).trans rfl; clear hb))
       go_ret
       exact ⟨rfl, B_6.out⟩
      cases c5 : rch F q y
      ·go_enter Try.func42, Try.ntmps42
       go_wp2_with (first | ((with_reducible refine gate_dst (N := 9) rfl ?_); refine box_event ?hg (N := 9) ?hd (cs := #[.int .u32 (X : Int), .int .u32 (B : Int), .bool true]) (t := 32) ?hr ?_; (case hd => rfl); (case hg => rfl); (case hr => first | (go_simp; done) | (go_simp; rfl)); intro gp hg_ w1 hm_ hb_; have GP := Aside0.mk (show w.heap.size ≤ gp by rw [hg_]; exact B_0.out.size); have B_1 := Aside0.mk (below_step B_0.out hb_); have P_1 := Aside0.mk (hm_); have cP0 := (blk_cell P_1.out 0).trans rfl; have cP1 := (blk_cell P_1.out 1).trans rfl; have cP2 := (blk_cell P_1.out 2).trans rfl; clear hm_ hb_ hg_) | (go_at_call 44; (with_reducible refine (IsNaN_calls y HY.out _).mono ?_); rw [c0]; rintro e w2 ⟨rfl, hb⟩; clear cP0 cP1 cP2; have B_2 := Aside0.mk (below_step B_1.out hb); have P_2 := Aside0.mk (blk_below P_1.out hb); clear P_1; have cP0 := (blk_cell P_2.out 0).trans rfl; have cP1 := (blk_cell P_2.out 1).trans rfl; have cP2 := (blk_cell P_2.out 2).trans rfl; clear hb) | (go_at_call 59; (with_reducible refine (Before_calls X lo HX.out HLO.out _).mono ?_); rw [c1]; rintro e w3 ⟨rfl, hd⟩; have hb := hd.below; clear hd; clear cP0 cP1 cP2; have B_3 := Aside0.mk (below_step B_2.out hb); have P_3 := Aside0.mk (blk_below P_2.out hb); clear P_2; have cP0 := (blk_cell P_3.out 0).trans rfl; have cP1 := (blk_cell P_3.out 1).trans rfl; have cP2 := (blk_cell P_3.out 2).trans rfl; clear hb) | (go_at_call 59; (with_reducible refine (Before_calls hi X HHI.out HX.out _).mono ?_); rw [c2]; rintro e w4 ⟨rfl, hd⟩; have hb := hd.below; clear hd; clear cP0 cP1 cP2; have B_4 := Aside0.mk (below_step B_3.out hb); have P_4 := Aside0.mk (blk_below P_3.out hb); clear P_3; have cP0 := (blk_cell P_4.out 0).trans rfl; have cP1 := (blk_cell P_4.out 1).trans rfl; have cP2 := (blk_cell P_4.out 2).trans rfl; clear hb) | (go_at_call 60; (with_reducible refine (reachesc_calls g X y F _ HX.out HY.out HF.out (fun W2 x hx h2 => HA.out W2 x hx (B_4.out.trans (h2.mono B_4.out.size)))).mono ?_); rw [c3]; rintro e w5 ⟨rfl, hb⟩; clear cP0 cP1 cP2; have B_5 := Aside0.mk (below_step B_4.out hb); have P_5 := Aside0.mk (blk_below P_4.out hb); clear P_4; have cP0 := (blk_cell P_5.out 0).trans rfl; have cP1 := (blk_cell P_5.out 1).trans rfl; have cP2 := (blk_cell P_5.out 2).trans rfl; clear hb) | (go_at_call 58; (with_reducible refine (Prev_calls X HX.out _).mono ?_); rw [hpv]; rintro e w6 ⟨rfl, hd⟩; have hb := hd.below; clear hd; clear cP0 cP1 cP2; have B_6 := Aside0.mk (below_step B_5.out hb); have P_6 := Aside0.mk (blk_below P_5.out hb); clear P_5; have cP0 := (blk_cell P_6.out 0).trans rfl; have cP1 := (blk_cell P_6.out 1).trans rfl; have cP2 := (blk_cell P_6.out 2).trans rfl; clear hb) | (go_at_call 60; (with_reducible refine (reachesc_calls g q y F _ HQ.out HY.out HF.out (fun W2 x hx h2 => HA.out W2 x hx (B_6.out.trans (h2.mono B_6.out.size)))).mono ?_); rw [c5]; rintro e w7 ⟨rfl, hb⟩; clear cP0 cP1 cP2; have B_7 := Aside0.mk (below_step B_6.out hb); have P_7 := Aside0.mk (blk_below P_6.out hb); clear P_6; have cP0 := (blk_cell P_7.out 0).trans rfl; have cP1 := (blk_cell P_7.out 1).trans rfl; have cP2 := (blk_cell P_7.out 2).trans rfl; clear hb))
       go_ret
       exact ⟨rfl, B_7.out⟩
      ·go_enter Try.func42, Try.ntmps42
       go_wp2_with (first | ((with_reducible refine gate_dst (N := 9) rfl ?_); refine box_event ?hg (N := 9) ?hd (cs := #[.int .u32 (X : Int), .int .u32 (B : Int), .bool true]) (t := 32) ?hr ?_; (case hd => rfl); (case hg => rfl); (case hr => first | (go_simp; done) | (go_simp; rfl)); intro gp hg_ w1 hm_ hb_; have GP := Aside0.mk (show w.heap.size ≤ gp by rw [hg_]; exact B_0.out.size); have B_1 := Aside0.mk (below_step B_0.out hb_); have P_1 := Aside0.mk (hm_); have cP0 := (blk_cell P_1.out 0).trans rfl; have cP1 := (blk_cell P_1.out 1).trans rfl; have cP2 := (blk_cell P_1.out 2).trans rfl; clear hm_ hb_ hg_) | (go_at_call 44; (with_reducible refine (IsNaN_calls y HY.out _).mono ?_); rw [c0]; rintro e w2 ⟨rfl, hb⟩; clear cP0 cP1 cP2; have B_2 := Aside0.mk (below_step B_1.out hb); have P_2 := Aside0.mk (blk_below P_1.out hb); clear P_1; have cP0 := (blk_cell P_2.out 0).trans rfl; have cP1 := (blk_cell P_2.out 1).trans rfl; have cP2 := (blk_cell P_2.out 2).trans rfl; clear hb) | (go_at_call 59; (with_reducible refine (Before_calls X lo HX.out HLO.out _).mono ?_); rw [c1]; rintro e w3 ⟨rfl, hd⟩; have hb := hd.below; clear hd; clear cP0 cP1 cP2; have B_3 := Aside0.mk (below_step B_2.out hb); have P_3 := Aside0.mk (blk_below P_2.out hb); clear P_2; have cP0 := (blk_cell P_3.out 0).trans rfl; have cP1 := (blk_cell P_3.out 1).trans rfl; have cP2 := (blk_cell P_3.out 2).trans rfl; clear hb) | (go_at_call 59; (with_reducible refine (Before_calls hi X HHI.out HX.out _).mono ?_); rw [c2]; rintro e w4 ⟨rfl, hd⟩; have hb := hd.below; clear hd; clear cP0 cP1 cP2; have B_4 := Aside0.mk (below_step B_3.out hb); have P_4 := Aside0.mk (blk_below P_3.out hb); clear P_3; have cP0 := (blk_cell P_4.out 0).trans rfl; have cP1 := (blk_cell P_4.out 1).trans rfl; have cP2 := (blk_cell P_4.out 2).trans rfl; clear hb) | (go_at_call 60; (with_reducible refine (reachesc_calls g X y F _ HX.out HY.out HF.out (fun W2 x hx h2 => HA.out W2 x hx (B_4.out.trans (h2.mono B_4.out.size)))).mono ?_); rw [c3]; rintro e w5 ⟨rfl, hb⟩; clear cP0 cP1 cP2; have B_5 := Aside0.mk (below_step B_4.out hb); have P_5 := Aside0.mk (blk_below P_4.out hb); clear P_4; have cP0 := (blk_cell P_5.out 0).trans rfl; have cP1 := (blk_cell P_5.out 1).trans rfl; have cP2 := (blk_cell P_5.out 2).trans rfl; clear hb) | (go_at_call 58; (with_reducible refine (Prev_calls X HX.out _).mono ?_); rw [hpv]; rintro e w6 ⟨rfl, hd⟩; have hb := hd.below; clear hd; clear cP0 cP1 cP2; have B_6 := Aside0.mk (below_step B_5.out hb); have P_6 := Aside0.mk (blk_below P_5.out hb); clear P_5; have cP0 := (blk_cell P_6.out 0).trans rfl; have cP1 := (blk_cell P_6.out 1).trans rfl; have cP2 := (blk_cell P_6.out 2).trans rfl; clear hb) | (go_at_call 60; (with_reducible refine (reachesc_calls g q y F _ HQ.out HY.out HF.out (fun W2 x hx h2 => HA.out W2 x hx (B_6.out.trans (h2.mono B_6.out.size)))).mono ?_); rw [c5]; rintro e w7 ⟨rfl, hb⟩; clear cP0 cP1 cP2; have B_7 := Aside0.mk (below_step B_6.out hb); have P_7 := Aside0.mk (blk_below P_6.out hb); clear P_6; have cP0 := (blk_cell P_7.out 0).trans rfl; have cP1 := (blk_cell P_7.out 1).trans rfl; have cP2 := (blk_cell P_7.out 2).trans rfl; clear hb))
       go_ret
       exact ⟨rfl, B_7.out⟩
  refine main _ rfl ?_
  by_cases h : X = lo
  ·rw [h, decide_eq_false (fun h => h rfl)]; exact (bne_self_eq_false _).symm
  ·rw [decide_eq_true h]; symm; exact bne_iff_ne.mpr (by omega)
 ·rw [if_pos rfl]
  go_enter Try.func42, Try.ntmps42
  go_wp2_with (first | ((with_reducible refine gate_dst (N := 9) rfl ?_); refine box_event ?hg (N := 9) ?hd (cs := #[.int .u32 (X : Int), .int .u32 (B : Int), .bool H]) (t := 32) ?hr ?_; (case hd => rfl); (case hg => rfl); (case hr => first | (go_simp; done) | (go_simp; rfl)); intro gp hg_ w1 hm_ hb_; have GP := Aside0.mk (show w.heap.size ≤ gp by rw [hg_]; exact B_0.out.size); have B_1 := Aside0.mk (below_step B_0.out hb_); have P_1 := Aside0.mk (hm_); have cP0 := (blk_cell P_1.out 0).trans rfl; have cP1 := (blk_cell P_1.out 1).trans rfl; have cP2 := (blk_cell P_1.out 2).trans rfl; clear hm_ hb_ hg_) | (go_at_call 44; (with_reducible refine (IsNaN_calls y HY.out _).mono ?_); rw [c0]; rintro e w2 ⟨rfl, hb⟩; clear cP0 cP1 cP2; have B_2 := Aside0.mk (below_step B_1.out hb); have P_2 := Aside0.mk (blk_below P_1.out hb); clear P_1; have cP0 := (blk_cell P_2.out 0).trans rfl; have cP1 := (blk_cell P_2.out 1).trans rfl; have cP2 := (blk_cell P_2.out 2).trans rfl; clear hb))
  go_ret
  exact ⟨rfl, B_2.out⟩
end Go.Proofs.Ytkicfaboibfbpaa.A
end
section
set_option linter.unusedVariables false
set_option linter.unusedSimpArgs false
namespace Go.Proofs.Ytkicfaboibfbpaa.A
open Go.RowKit Go.Proofs.YtkicfaboibfbpaaW.PrintWords Go.Proofs.YtkicfaboibfbpaaW.PrintLast Go.Proofs.YtkicfaboibfbpaaW.PrintMore Go.Proofs.Ytkicfaboibfbpaa.PCurveAts
/-- the error of Least -/
def lerr (F : Nat → Nat) (hi y : Nat) : Nat := if noY F hi y = true then 43 else 0
theorem firstc_calls (g lo hi y : Nat) (F : Nat → Nat) (w : World) (hF : Ris F) (hlo : lo < 4294967296) (hhi : hi < 4294967296) (hy : y < 4294967296) (n1 : isnan lo = false) (n2 : isnan hi = false) (hk : kf lo ≤ kf hi) (hA : ∀ (W : World) (x : Nat), x < 4294967296 → Below w.heap.size w W → Calls Try.prog 17 #[.pointer (some ⟨g, 0, none⟩), .int .u32 (x : Int)] W fun e w' => e = .returned (.int .u32 ((F x : Nat) : Int)) ∧ Below W.heap.size W w') :
    Calls Try.prog 41 #[.iface 26 (.pointer (some ⟨g, 0, none⟩)), .int .u32 (lo : Int), .int .u32 (hi : Int), .int .u32 (y : Int)] w fun e w' => e = .returned (.tuple #[.agg #[.int .u32 ((lst F lo hi y).X : Int), .int .u32 ((lst F lo hi y).B : Int), .bool (lst F lo hi y).H], .int .i64 ((lerr F hi y : Nat) : Int)]) ∧ Below w.heap.size w w' := by
 unfold lerr
 cases hno : noY F hi y
 ·rw [if_neg (by decide)]
  have h := hno
  unfold noY at h
  rw [Bool.or_eq_false_iff] at h
  have hw := kf_word hhi
  have hu : ∀ r, Srch (fun i => !lt (F (fk (kf lo + i))) y) (kf hi - kf lo) r → r = lstN F lo hi y := fun r hr => srch_uniq (fun i j hij hj hp => rs_mono hF hlo hhi n1 n2 hk hy h.1 i j hij (Nat.le_of_lt hj) hp) hr (fs_srch _ _)
  have hs := (lst_X hF hlo hhi n1 n2 hk y hno).2.1
  by_cases h0 : lstN F lo hi y = 0
  ·rw [lst_0 hno h0]
   have := first_zeroc g lo hi y F w hlo hhi hy hF.word hA h.1 h.2 hk 0 rfl (Nat.zero_le _) (fun r hr => (hu r hr).trans h0)
   rw [Nat.add_zero, fk_kf' hlo] at this
   exact this
  ·rw [lst_n hno h0]
   exact first_posc g lo hi y F w hlo hhi hy hF.word hA h.1 h.2 hk _ h0 hs hu
 ·rw [if_pos rfl, lst_no hno]
  unfold noY at hno
  cases h0 : isnan y
  ·rw [h0, Bool.false_or] at hno
   exact first_farc g lo hi y F w hlo hhi hy hF.word hA h0 hno
  ·exact first_nanc g lo hi y F w hlo hhi hy hF.word hA h0
/-- the ends of a curve -/
def lo0 (l : List (Nat × Nat)) : Nat := (gk l 0).1
def hi0 (l : List (Nat × Nat)) : Nat := (gk l (l.length - 1)).1
section
variable {l : List (Nat × Nat)} (hv : Val l)
include hv
theorem ends_ok : lo0 l < 4294967296 ∧ hi0 l < 4294967296 ∧ isnan (lo0 l) = false ∧ isnan (hi0 l) = false ∧ kf (lo0 l) ≤ kf (hi0 l) := by
 have two := hv.two
 have h := lt_pz (hv.mono (i := 0) (j := l.length - 1) (by omega) (by omega))
 refine ⟨(gk_ok hv.ok 0).1, (gk_ok hv.ok _).1, h.1, h.2.1, ?_⟩
 have a := (gk_ok hv.ok 0).1
 have b := (gk_ok hv.ok (l.length - 1)).1
 have h2 := h.2.2
 unfold lo0 hi0 kf
 unfold pz at h2
 generalize (gk l 0).1 = u at *
 generalize (gk l (l.length - 1)).1 = v at *
 clear h
 by_cases c1 : u < 2147483648
 ·by_cases c2 : v < 2147483648
  ·rw [if_pos c1, if_pos c2] at *; omega
  ·rw [if_pos c1, if_neg c2] at *; omega
 ·by_cases c2 : v < 2147483648
  ·rw [if_neg c1, if_pos c2] at *; omega
  ·rw [if_neg c1, if_neg c2] at *; omega
end
set_option maxHeartbeats 2000000 in
theorem Leastc_calls (g : Nat) (A : Option Addr) (c : Nat) (l : List (Nat × Nat)) (hv : Val l) (w : World) (hC : CvB w g A c l) (y : Nat) (hy : y < 4294967296) :
    Calls Try.prog 13 #[.pointer (some ⟨g, 0, none⟩), .int .u32 (y : Int)] w fun e w' => e = .returned (.tuple #[.agg #[.int .u32 ((lst (atP l) (lo0 l) (hi0 l) y).X : Int), .int .u32 ((lst (atP l) (lo0 l) (hi0 l) y).B : Int), .bool (lst (atP l) (lo0 l) (hi0 l) y).H], .int .i64 ((lerr (atP l) (hi0 l) y : Nat) : Int)]) ∧ Below w.heap.size w w' := by
 have RF := ris_at hv
 have EN := ends_ok hv
 have HC : Aside0 (CvB w g A c l) := ⟨hC⟩
 have HV := Aside0.mk hv
 obtain ⟨F, hF⟩ : ∃ F, atP l = F := ⟨_, rfl⟩
 obtain ⟨lo, hlo⟩ : ∃ u, lo0 l = u := ⟨_, rfl⟩
 obtain ⟨hi, hhi⟩ : ∃ u, hi0 l = u := ⟨_, rfl⟩
 rw [hF, hlo, hhi]
 rw [hF] at RF
 rw [hlo, hhi] at EN
 obtain ⟨⟨pX, pB, pH⟩, hp⟩ : ∃ p, lst F lo hi y = p := ⟨_, rfl⟩
 obtain ⟨pe, hpe⟩ : ∃ n, lerr F hi y = n := ⟨_, rfl⟩
 rw [hp, hpe]
 have HFI : Aside0 (∀ W, Below w.heap.size w W → Calls Try.prog 41 #[.iface 26 (.pointer (some ⟨g, 0, none⟩)), .int .u32 (lo : Int), .int .u32 (hi : Int), .int .u32 (y : Int)] W fun e w' => e = .returned (.tuple #[.agg #[.int .u32 (pX : Int), .int .u32 (pB : Int), .bool pH], .int .i64 (pe : Int)]) ∧ Below W.heap.size W w') := ⟨fun W hb => by
  have := firstc_calls g lo hi y F W RF EN.1 EN.2.1 hy EN.2.2.1 EN.2.2.2.1 EN.2.2.2.2 (fun W2 x hx h2 => by rw [← hF]; exact At_calls g A c l hv x hx W2 ((hC.below hb).below h2))
  rw [hp, hpe] at this
  exact this⟩
 have B_0 : Aside0 (Below w.heap.size w w) := ⟨Below.refl _ _⟩
 have HLO := Aside0.mk hlo
 have HHI := Aside0.mk hhi
 unfold lo0 at HLO
 unfold hi0 at HHI
 clear hC hv hF hlo hhi hy RF EN hp hpe
 go_enter Try.func13, Try.ntmps13
 go_wp2_with (first | ((with_reducible refine gate_dst (N := 4) rfl ?_); refine box_event ?hg (N := 4) ?hd (cs := #[.int .u32 0, .int .u32 0, .bool false]) (t := 32) ?hr ?_; (case hd => rfl); (case hg => rfl); (case hr => first | (go_simp; done) | (go_simp; rfl)); intro gr hg_ w1 hm_ hb_; have GR := Aside0.mk (show w.heap.size ≤ gr by rw [hg_]; exact B_0.out.size); have B_1 := Aside0.mk (below_step B_0.out hb_); have R_1 := Aside0.mk (hm_); clear hm_ hb_ hg_) | (go_at_call 40; (with_reducible refine (ends_calls g A c l HV.out _ (HC.out.below B_1.out)).mono ?_); rw [HLO.out, HHI.out]; rintro e w2 ⟨rfl, hb⟩; have B_2 := Aside0.mk (below_step B_1.out hb); have R_2 := Aside0.mk (blk_below R_1.out hb); clear R_1; clear hb) | (go_at_call 41; (with_reducible refine (HFI.out _ B_2.out).mono ?_); rintro e w3 ⟨rfl, hb⟩; have B_3 := Aside0.mk (below_step B_2.out hb); have R_3 := Aside0.mk (blk_below R_2.out hb); clear R_2; clear hb) | ((with_reducible refine gate_store (p := 4) rfl ?_); refine store_event rfl rfl rfl gr #[.int .u32 (pX : Int), .int .u32 (pB : Int), .bool pH] _ 32 rfl rfl R_3.out size32 rfl (by simp [Value.oneCell']) ?_; intro w4 hm_ hst_ hbl_; have B_4 := Aside0.mk (B_3.out.trans (hbl_ _ GR.out)); have R_4 := Aside0.mk (hm_); clear R_3 hm_ hst_ hbl_))
 refine bodyPost_ret (results_ct rfl _ _ gr 32 #[.int .u32 (pX : Int), .int .u32 (pB : Int), .bool pH] (0, 0) _ rfl R_4.out Try.underlying32 rfl (by kernel_rfl)) rfl ?_
 exact ⟨rfl, B_4.out⟩
set_option maxHeartbeats 2000000 in
theorem Checkc_calls (g : Nat) (A : Option Addr) (c : Nat) (l : List (Nat × Nat)) (hv : Val l) (w : World) (hC : CvB w g A c l) (y X B : Nat) (H : Bool) (hy : y < 4294967296) (hX : X < 4294967296) :
    Calls Try.prog 14 #[.pointer (some ⟨g, 0, none⟩), .int .u32 (y : Int), .agg #[.int .u32 (X : Int), .int .u32 (B : Int), .bool H]] w fun e w' => e = .returned (.bool (ckP (atP l) (lo0 l) (hi0 l) y ⟨X, B, H⟩)) ∧ Below w.heap.size w w' := by
 have RF := ris_at hv
 have EN := ends_ok hv
 have HC : Aside0 (CvB w g A c l) := ⟨hC⟩
 have HV := Aside0.mk hv
 obtain ⟨F, hF⟩ : ∃ F, atP l = F := ⟨_, rfl⟩
 obtain ⟨lo, hlo⟩ : ∃ u, lo0 l = u := ⟨_, rfl⟩
 obtain ⟨hi, hhi⟩ : ∃ u, hi0 l = u := ⟨_, rfl⟩
 rw [hF, hlo, hhi]
 rw [hF] at RF
 rw [hlo, hhi] at EN
 have HFI : Aside0 (∀ W, Below w.heap.size w W → Calls Try.prog 42 #[.iface 26 (.pointer (some ⟨g, 0, none⟩)), .int .u32 (lo : Int), .int .u32 (hi : Int), .int .u32 (y : Int), .agg #[.int .u32 (X : Int), .int .u32 (B : Int), .bool H]] W fun e w' => e = .returned (.bool (ckP F lo hi y ⟨X, B, H⟩)) ∧ Below W.heap.size W w') := ⟨fun W hb => by
  exact provedc_calls g lo hi y X B H F W EN.1 EN.2.1 hy hX RF.word (fun W2 x hx h2 => by rw [← hF]; exact At_calls g A c l hv x hx W2 ((hC.below hb).below h2))⟩
 have B_0 : Aside0 (Below w.heap.size w w) := ⟨Below.refl _ _⟩
 have HLO := Aside0.mk hlo
 have HHI := Aside0.mk hhi
 unfold lo0 at HLO
 unfold hi0 at HHI
 clear hC hv hF hlo hhi hy hX RF EN
 go_enter Try.func14, Try.ntmps14
 go_wp2_with (first | ((with_reducible refine gate_dst (N := 5) rfl ?_); refine box_event ?hg (N := 5) ?hd (cs := #[.int .u32 (X : Int), .int .u32 (B : Int), .bool H]) (t := 32) ?hr ?_; (case hd => rfl); (case hg => rfl); (case hr => first | (go_simp; done) | (go_simp; rfl)); intro gq hg_ w1 hm_ hb_; have GQ := Aside0.mk (show w.heap.size ≤ gq by rw [hg_]; exact B_0.out.size); have B_1 := Aside0.mk (below_step B_0.out hb_); have Q_1 := Aside0.mk (hm_); clear hm_ hb_ hg_) | (go_at_call 40; (with_reducible refine (ends_calls g A c l HV.out _ (HC.out.below B_1.out)).mono ?_); rw [HLO.out, HHI.out]; rintro e w2 ⟨rfl, hb⟩; have B_2 := Aside0.mk (below_step B_1.out hb); have Q_2 := Aside0.mk (blk_below Q_1.out hb); clear Q_1; clear hb) | ((with_reducible refine gate_dst (N := 19) rfl ?_); refine Kd.event_run rfl (v := .agg #[.int .u32 (X : Int), .int .u32 (B : Int), .bool H]) (w1 := w2) ?hr ?_; (case hr => exact load32 (by rfl) rfl (Q_2.out))) | (go_at_call 42; (with_reducible refine (HFI.out _ B_2.out).mono ?_); rintro e w3 ⟨rfl, hb⟩; have B_3 := Aside0.mk (below_step B_2.out hb); have Q_3 := Aside0.mk (blk_below Q_2.out hb); clear Q_2; clear hb))
 go_ret
 exact ⟨rfl, B_3.out⟩
end Go.Proofs.Ytkicfaboibfbpaa.A
end
section
set_option linter.unusedVariables false
set_option linter.unusedSimpArgs false
namespace Go.Proofs.Ytkicfaboibfbpaa.A
open Go.RowKit Go.Proofs.YtkicfaboibfbpaaW.PrintWords Go.Proofs.YtkicfaboibfbpaaW.PrintLast Go.Proofs.YtkicfaboibfbpaaW.PrintMore Go.Proofs.Ytkicfaboibfbpaa.PCurveAts
theorem atA_drop (ls : List (List (Nat × Nat))) {i : Nat} (h : i < ls.length) (x : Nat) : atA (ls.drop i) x = atA (ls.drop (i + 1)) (atP (ls.getD i []) x) := by
 rw [drop_cons ls [] h]; rfl
theorem getD_mem {α : Type} {ls : List α} {i : Nat} (h : i < ls.length) (d : α) : ls.getD i d ∈ ls := by
 rw [List.getD_eq_getElem?_getD, List.getElem?_eq_getElem h]; exact List.getElem_mem h
end Go.Proofs.Ytkicfaboibfbpaa.A
end
section
set_option linter.unusedVariables false
set_option linter.unusedSimpArgs false
namespace Go.Proofs.Ytkicfaboibfbpaa.A
open Go.RowKit Go.Proofs.YtkicfaboibfbpaaW.PrintWords Go.Proofs.YtkicfaboibfbpaaW.PrintLast Go.Proofs.YtkicfaboibfbpaaW.PrintMore Go.Proofs.Ytkicfaboibfbpaa.PCurveAts
abbrev Hd := Option Addr × Nat × Nat
/-- a row of headers -/
def hk : Kd Hd := Kd.scalar (fun h : Hd => .slice h.1 h.2.1 h.2.2) (fun _ => rfl)
/-- rows of knots in memory -/
def KsA (w : World) (A : Option Addr) (ls : List (List (Nat × Nat))) : Prop := ∃ hs : List Hd, hs.length = ls.length ∧ hk.C w A hs.length hs ∧ ∀ i, i < ls.length → (hs.getD i (none, 0, 0)).2.1 = (ls.getD i []).length ∧ (ls.getD i []).length ≤ (hs.getD i (none, 0, 0)).2.2 ∧ Kn w (hs.getD i (none, 0, 0)).1 (ls.getD i [])
theorem KsA.below {w w' : World} {A : Option Addr} {ls : List (List (Nat × Nat))} (h : KsA w A ls) (hb : Below w.heap.size w w') : KsA w' A ls := by
 obtain ⟨hs, h1, h2, h3⟩ := h
 exact ⟨hs, h1, Kd.C_below h2 hb, fun i hi => ⟨(h3 i hi).1, (h3 i hi).2.1, (h3 i hi).2.2.below hb⟩⟩
theorem KsA.at_ {w : World} {A : Option Addr} {ls : List (List (Nat × Nat))} (h : KsA w A ls) (i : Nat) (hi : i < ls.length) : ∃ ad B c, A = some ad ∧ w.cell? (ad.add i) = some (.slice B (ls.getD i []).length c) ∧ (ls.getD i []).length ≤ c ∧ Kn w B (ls.getD i []) := by
 obtain ⟨hs, h1, h2, h3⟩ := h
 obtain ⟨ad, cs, hA, hl, hK, hc⟩ := Kd.C_get h2 (none, 0, 0) (i : Int) (by omega) (by omega)
 rw [Int.toNat_natCast] at hK hc
 obtain ⟨a1, a2, a3⟩ := h3 i hi
 have hK' : cs = [.slice (hs.getD i (none, 0, 0)).1 (hs.getD i (none, 0, 0)).2.1 (hs.getD i (none, 0, 0)).2.2] := hK
 have := hc 0 _ (by rw [hK']; rfl)
 rw [a1] at this
 exact ⟨ad, _, _, hA, by simpa [hk, Kd.scalar] using this, a2, a3⟩
set_option maxHeartbeats 4000000 in
theorem rAtAll_calls (A : Option Addr) (c : Nat) (ls : List (List (Nat × Nat))) (hv : ∀ l ∈ ls, Val l) (h8 : ls.length < 1000) (x : Nat) (hx : x < 4294967296) (w : World) (hK : KsA w A ls) :
    Calls Try.prog 35 #[.slice A ls.length c, .int .u32 (x : Int)] w fun e w' => e = .returned (.int .u32 ((atA ls x : Nat) : Int)) ∧ Below w.heap.size w w' := by
 obtain ⟨n, hn⟩ : ∃ n, ls.length = n := ⟨_, rfl⟩
 rw [hn] at h8 ⊢
 have HV := Aside0.mk hv
 have HK : Aside0 (KsA w A ls) := ⟨hK⟩
 have HN := Aside0.mk hn
 have HX := Aside0.mk hx
 have H8 := Aside0.mk h8
 clear hK hv hx hn h8
 go_enter Try.func35, Try.ntmps35
 go_wp2
 go_loopg [1, 5] n (fun kx s1 s12 wr => ∃ (i xi : Nat), s1 = .int .u32 (xi : Int) ∧ s12 = .int .i64 (i : Int) ∧ i ≤ n ∧ n - i ≤ kx ∧ Aside0 (Below w.heap.size w wr) ∧ Aside0 (xi < 4294967296 ∧ atA (ls.drop i) xi = atA ls x))
 case atStart => exact ⟨0, x, rfl, rfl, Nat.zero_le _, by omega, ⟨Below.refl _ _⟩, ⟨HX.out, rfl⟩⟩
 case round =>
  obtain ⟨i, xi, rfl, rfl, i1, i2, HB, I⟩ := hrel
  by_cases hin : i < n
  ·have h8 := H8.out
   have e1i : decide ((0 : Int) ≤ (i : Int)) = true := decide_eq_true (by omega)
   have e2i : decide ((i : Int) < (n : Int)) = true := decide_eq_true (by omega)
   have e5i : ((0 : Int) ≤ (i : Int)) = True := eq_true (by omega)
   have e6i : ((i : Int) < (n : Int)) = True := eq_true (by omega)
   have e7i : (i < n) = True := eq_true (by omega)
   have wi : IntKind.i64.wrap ((i : Int) + 1) = ((i + 1 : Nat) : Int) := by rw [show IntKind.i64.wrap ((i : Int) + 1) = wrap64 ((i : Int) + 1) from i64_w _, w64 (by omega) (by omega)]; omega
   have hil : i < ls.length := by have := HN.out; omega
   obtain ⟨ad, Ai, ci, rfl, hp, hci, hKi⟩ := (HK.out.below HB.out).at_ i hil
   have HC := Aside0.mk hci
   have HKI : Aside0 (Kn wr Ai (ls.getD i [])) := ⟨hKi⟩
   have HVI : Aside0 (Val (ls.getD i [])) := ⟨HV.out _ (getD_mem hil _)⟩
   have IX : Aside0 (xi < 4294967296) := ⟨I.out.1⟩
   have IE : Aside0 (atA (ls.drop (i + 1)) (atP (ls.getD i []) xi) = atA ls x) := ⟨by rw [← atA_drop ls hil]; exact I.out.2⟩
   have HIN := Aside0.mk hin
   obtain ⟨li, hli⟩ : ∃ u, ls.getD i [] = u := ⟨_, rfl⟩
   rw [hli] at hp HC HKI HVI IE
   clear hil hci hin I h8 hKi hli
   go_wp2_with (go_at_call 18; (with_reducible refine (rAt_calls Ai ci li HVI.out xi IX.out _ HC.out HKI.out).mono ?_); rintro e w5 ⟨rfl, hb⟩; have B5 := Aside0.mk (below_step HB.out hb); clear hb)
   go_roundg (n - (i + 1))
   case measure => have := HIN.out; omega
   case rel => exact ⟨i + 1, _, rfl, by first | rfl | (congr 1; omega), HIN.out, by omega, ⟨B5.out⟩, ⟨at_lt HVI.out IX.out, IE.out⟩⟩
  ·obtain rfl : i = n := by omega
   have dd : decide ((i : Int) < (i : Int)) = false := decide_eq_false (by omega)
   have hE := I.out.2
   rw [List.drop_eq_nil_of_le (by have := HN.out; omega)] at hE
   have IE : Aside0 (xi = atA ls x) := ⟨hE⟩
   clear hE hin
   go_wp2
   go_ret
   exact ⟨by rw [← IE.out]; rfl, HB.out⟩
theorem rFromKey_calls (k : Nat) (hk : k < 4294967296) (w : World) : Calls Try.prog 39 #[.int .i64 (k : Int)] w fun e w' => e = .returned (.int .u32 ((fk k : Nat) : Int)) ∧ w' = w := by
 unfold fk
 by_cases h : 2147483648 ≤ k
 ·rw [if_pos h]
  have d1 : decide ((k : Int) ≥ 2147483648) = true := decide_eq_true (by omega)
  have d2 : decide ((2147483648 : Int) ≤ (k : Int)) = true := decide_eq_true (by omega)
  have d3 : (2147483648 ≤ k) = True := eq_true h
  have w1 : IntKind.i64.wrap ((k : Int) - 2147483648) = ((k - 2147483648 : Nat) : Int) := by rw [show IntKind.i64.wrap ((k : Int) - 2147483648) = wrap64 ((k : Int) - 2147483648) from i64_w _, w64 (by omega) (by omega)]; omega
  obtain ⟨q, hq⟩ : ∃ q, k - 2147483648 = q := ⟨_, rfl⟩
  rw [hq] at w1 ⊢
  have w2 : IntKind.u32.wrap (q : Int) = (q : Int) := by rw [IntKind.wrap_u32]; omega
  clear h hq hk
  go_enter Try.func39, Try.ntmps39
  go_wp2
  go_ret
  exact ⟨rfl, rfl⟩
 ·rw [if_neg h]
  have d1 : decide ((k : Int) ≥ 2147483648) = false := decide_eq_false (by omega)
  have d2 : decide ((2147483648 : Int) ≤ (k : Int)) = false := decide_eq_false (by omega)
  have d3 : (2147483648 ≤ k) = False := eq_false h
  have w1 : IntKind.i64.wrap (4294967295 - (k : Int)) = ((4294967295 - k : Nat) : Int) := by rw [show IntKind.i64.wrap (4294967295 - (k : Int)) = wrap64 (4294967295 - (k : Int)) from i64_w _, w64 (by omega) (by omega)]; omega
  obtain ⟨q, hq⟩ : ∃ q, 4294967295 - k = q := ⟨_, rfl⟩
  rw [hq] at w1 ⊢
  have w2 : IntKind.u32.wrap (q : Int) = (q : Int) := by rw [IntKind.wrap_u32]; omega
  clear h hq hk
  go_enter Try.func39, Try.ntmps39
  go_wp2
  go_ret
  exact ⟨rfl, rfl⟩
set_option maxHeartbeats 16000000 in
set_option maxRecDepth 100000 in
theorem rLeast_calls (A : Option Addr) (c : Nat) (ls : List (List (Nat × Nat))) (hv : ∀ l ∈ ls, Val l) (h8 : ls.length < 1000) (h0 : 1 ≤ ls.length) (y : Nat) (hy : y < 4294967296) (w : World) (hK : KsA w A ls) :
    Calls Try.prog 12 #[.slice A ls.length c, .int .u32 (y : Int)] w fun e w' => e = .returned (.tuple #[.agg #[.int .u32 ((lst (atA ls) (lo0 (ls.getD 0 [])) (hi0 (ls.getD 0 [])) y).X : Int), .int .u32 ((lst (atA ls) (lo0 (ls.getD 0 [])) (hi0 (ls.getD 0 [])) y).B : Int), .bool (lst (atA ls) (lo0 (ls.getD 0 [])) (hi0 (ls.getD 0 [])) y).H], .int .i64 ((lerr (atA ls) (hi0 (ls.getD 0 [])) y : Nat) : Int)]) ∧ Below w.heap.size w w' := by
 have RF := ris_all ls hv
 have hv0 := hv _ (getD_mem (show 0 < ls.length by omega) [])
 have EN := ends_ok hv0
 obtain ⟨ad, B0, cz, rfl, hp0, hc0, hK0⟩ := hK.at_ 0 (by omega)
 obtain ⟨l0, hl0⟩ : ∃ u, ls.getD 0 [] = u := ⟨_, rfl⟩
 rw [hl0] at hp0 hc0 hK0 hv0 EN ⊢
 rw [Addr.add_zero'] at hp0
 obtain ⟨b0, rfl, _⟩ := kn_at hK0 0 (by have := hv0.two; omega)
 obtain ⟨a0, a1⟩ := kn_at0 hK0 (by have := hv0.two; omega)
 obtain ⟨m, hm⟩ : ∃ m, l0.length = m + 1 := ⟨l0.length - 1, by have := hv0.two; omega⟩
 obtain ⟨q0, q1⟩ := kn_at2 hK0 m (by omega)
 obtain ⟨F, hF⟩ : ∃ F, atA ls = F := ⟨_, rfl⟩
 obtain ⟨lo, hlo⟩ : ∃ u, lo0 l0 = u := ⟨_, rfl⟩
 obtain ⟨hi, hhi⟩ : ∃ u, hi0 l0 = u := ⟨_, rfl⟩
 have e1 : (gk l0 0).1 = lo := hlo
 have e2 : (gk l0 m).1 = hi := by rw [← hhi]; unfold hi0; rw [show l0.length - 1 = m by omega]
 have hme := hv0.most
 obtain ⟨m1, hm1⟩ : ∃ m1, l0.length = m1 := ⟨_, rfl⟩
 obtain ⟨n, hn⟩ : ∃ n, ls.length = n := ⟨_, rfl⟩
 have HAT : Aside0 (∀ (W : World) (x : Nat), x < 4294967296 → Below w.heap.size w W → Calls Try.prog 35 #[.slice (some ad) n c, .int .u32 (x : Int)] W fun e w' => e = .returned (.int .u32 ((F x : Nat) : Int)) ∧ Below W.heap.size W w') := ⟨fun W x hx hb => by
  rw [← hn, ← hF]
  exact rAtAll_calls _ c ls hv h8 x hx W (hK.below hb)⟩
 rw [e1] at a0
 rw [e2] at q0
 rw [hm1] at hp0 hc0 hm hme
 rw [hF, hlo, hhi]
 rw [hF] at RF
 rw [hlo, hhi] at EN
 rw [hn] at h8 h0 ⊢
 have HRF := Aside0.mk RF
 have HEN := Aside0.mk EN
 have HY := Aside0.mk hy
 have f1 : decide ((0 : Int) < (n : Int)) = true := decide_eq_true (by omega)
 have f2 : (0 < n) = True := eq_true (by omega)
 have f3 : decide ((0 : Int) < (m1 : Int)) = true := decide_eq_true (by omega)
 have f4 : (0 < m1) = True := eq_true (by omega)
 have f5 : decide ((0 : Int) ≤ (m : Int)) = true := decide_eq_true (by omega)
 have f6 : decide ((m : Int) < (m1 : Int)) = true := decide_eq_true (by omega)
 have f7 : ((0 : Int) ≤ (m : Int)) = True := eq_true (by omega)
 have f8 : ((m : Int) < (m1 : Int)) = True := eq_true (by omega)
 have f9 : (m < m1) = True := eq_true (by omega)
 have wm : IntKind.i64.wrap ((m1 : Int) - 1) = (m : Int) := by rw [show IntKind.i64.wrap ((m1 : Int) - 1) = wrap64 ((m1 : Int) - 1) from i64_w _, w64 (by omega) (by omega)]; omega
 have HLO : Aside0 (lo < 4294967296) := ⟨EN.1⟩
 have HHI : Aside0 (hi < 4294967296) := ⟨EN.2.1⟩
 have HCE : Aside0 (w.cell? ad = some (.slice (some b0) m1 cz) ∧ w.cell? b0 = some (.int .u32 (lo : Int)) ∧ w.cell? (b0.add (m * 2)) = some (.int .u32 (hi : Int))) := ⟨hp0, a0, q0⟩
 clear RF EN hF hlo hhi e1 e2 hv hv0 hK hK0 hy h8 h0 hn hm hm1 hl0 hme hc0 a1 q1 hp0 a0 q0
 have B_0 : Aside0 (Below w.heap.size w w) := ⟨Below.refl _ _⟩
 unfold lerr
 cases c0 : isnan y
 case true =>
  have hno : noY F hi y = true := by unfold noY; rw [c0]; rfl
  rw [lst_no hno, if_pos hno]
  clear hno
  go_enter Try.func12, Try.ntmps12
  go_wp2_with (((with_reducible refine gate_dst (N := 4) rfl ?_); refine box_event ?hg (N := 4) ?hd (cs := #[.int .u32 0, .int .u32 0, .bool false]) (t := 32) ?hr ?_; (case hd => rfl); (case hg => rfl); (case hr => first | (go_simp; done) | (go_simp; rfl)); intro gr hg_ w1 hm_ hb_; have GR := Aside0.mk (show w.heap.size ≤ gr by rw [hg_]; exact B_0.out.size); have B_1 := Aside0.mk (below_step B_0.out hb_); have R_1 := Aside0.mk (hm_); obtain ⟨hp0, a0, q0⟩ := (⟨pw_cell_below B_1.out HCE.out.1, pw_cell_below B_1.out HCE.out.2.1, pw_cell_below B_1.out HCE.out.2.2⟩ : _ ∧ _ ∧ _); clear hm_ hb_ hg_))
  have B_2 : Aside0 (Below w.heap.size w w1.drew) := ⟨below_drew B_1.out⟩
  have R_2 := Aside0.mk (blk_drew R_1.out)
  clear B_1 R_1
  refine start_ (n := 12) (S := fun w' => w'.cell? ad = some (.slice (some b0) m1 cz) ∧ w'.cell? b0 = some (.int .u32 (lo : Int)) ∧ w'.cell? (b0.add (m * 2)) = some (.int .u32 (hi : Int))) (ds := []) #[ff_,ff_,ff_,ff_,ff_,ff_,ff_,ff_,ff_,ff_,ff_,ff_] (by kernel_rfl) rfl rfl ⟨hp0, a0, q0⟩ (fun hHeld => ?_)
  generalize w1.drew = w2 at *
  refine pure_ (i := 0) (N := some 18) (v := ?_) (a' := ?_) #[tt_,ff_,ff_,ff_,ff_,ff_,ff_,ff_,ff_,ff_,ff_,ff_] rfl rfl (by kernel_rfl) (fun _ _ _ h => h) (Or.inl ⟨by rfl, ?_⟩) ?_ ?_
  rotate_left
  ·intro w'
   go_simp
   with_reducible rfl
  rotate_left
  ·simp only [Act.put, List.setIfInBounds_toArray, List.set_cons_zero, List.set_cons_succ, i64_w, i32_w]
   rfl
  refine pure_ (i := 1) (N := some 19) (v := ?_) (a' := ?_) #[tt_,tt_,ff_,ff_,ff_,ff_,ff_,ff_,ff_,ff_,ff_,ff_] rfl rfl (by kernel_rfl) (fun _ _ _ h => h) (Or.inl ⟨by rfl, ?_⟩) ?_ ?_
  rotate_left
  ·intro w'
   go_simp
   with_reducible rfl
  rotate_left
  ·simp only [Act.put, List.setIfInBounds_toArray, List.set_cons_zero, List.set_cons_succ, i64_w, i32_w]
   rfl
  refine pure_ (i := 3) (N := some 21) (v := ?_) (a' := ?_) #[tt_,tt_,ff_,tt_,ff_,ff_,ff_,ff_,ff_,ff_,ff_,ff_] rfl rfl (by kernel_rfl) (fun _ _ _ h => h) (Or.inl ⟨by rfl, ?_⟩) ?_ ?_
  rotate_left
  ·intro w'
   go_simp
   with_reducible rfl
  rotate_left
  ·simp only [Act.put, List.setIfInBounds_toArray, List.set_cons_zero, List.set_cons_succ, i64_w, i32_w]
   rfl
  refine pure_ (i := 4) (N := some 22) (v := ?_) (a' := ?_) #[tt_,tt_,ff_,tt_,tt_,ff_,ff_,ff_,ff_,ff_,ff_,ff_] rfl rfl (by kernel_rfl) (fun _ _ _ h => h) (Or.inl ⟨by rfl, ?_⟩) ?_ ?_
  rotate_left
  ·intro w'
   go_simp
   with_reducible rfl
  rotate_left
  ·simp only [Act.put, List.setIfInBounds_toArray, List.set_cons_zero, List.set_cons_succ, i64_w, i32_w]
   rfl
  refine take_ (i := 2) (N := some 20) (v := ?_) (a' := ?_) #[tt_,tt_,tt_,tt_,tt_,ff_,ff_,ff_,ff_,ff_,ff_,ff_] rfl rfl (by kernel_rfl) (fun _ _ _ h => h) (Or.inl ⟨by rfl, ?_⟩) hHeld ?_ ?_
  rotate_left
  ·rintro w' ⟨s0, s1, s2⟩
   go_simp
   with_reducible rfl
  rotate_left
  ·simp only [Act.put, List.setIfInBounds_toArray, List.set_cons_zero, List.set_cons_succ, i64_w, i32_w]
   rfl
  refine take_ (i := 5) (N := some 23) (v := ?_) (a' := ?_) #[tt_,tt_,tt_,tt_,tt_,tt_,ff_,ff_,ff_,ff_,ff_,ff_] rfl rfl (by kernel_rfl) (fun _ _ _ h => h) (Or.inl ⟨by rfl, ?_⟩) hHeld ?_ ?_
  rotate_left
  ·rintro w' ⟨s0, s1, s2⟩
   go_simp
   with_reducible rfl
  rotate_left
  ·simp only [Act.put, List.setIfInBounds_toArray, List.set_cons_zero, List.set_cons_succ, i64_w, i32_w]
   rfl
  refine pure_ (i := 6) (N := some 24) (v := ?_) (a' := ?_) #[tt_,tt_,tt_,tt_,tt_,tt_,tt_,ff_,ff_,ff_,ff_,ff_] rfl rfl (by kernel_rfl) (fun _ _ _ h => h) (Or.inl ⟨by rfl, ?_⟩) ?_ ?_
  rotate_left
  ·intro w'
   go_simp
   with_reducible rfl
  rotate_left
  ·simp only [Act.put, List.setIfInBounds_toArray, List.set_cons_zero, List.set_cons_succ, i64_w, i32_w]
   rfl
  refine pure_ (i := 7) (N := some 25) (v := ?_) (a' := ?_) #[tt_,tt_,tt_,tt_,tt_,tt_,tt_,tt_,ff_,ff_,ff_,ff_] rfl rfl (by kernel_rfl) (fun _ _ _ h => h) (Or.inl ⟨by rfl, ?_⟩) ?_ ?_
  rotate_left
  ·intro w'
   go_simp
   with_reducible rfl
  rotate_left
  ·simp only [Act.put, List.setIfInBounds_toArray, List.set_cons_zero, List.set_cons_succ, i64_w, i32_w]
   rfl
  refine pure_ (i := 8) (N := some 26) (v := ?_) (a' := ?_) #[tt_,tt_,tt_,tt_,tt_,tt_,tt_,tt_,tt_,ff_,ff_,ff_] rfl rfl (by kernel_rfl) (fun _ _ _ h => h) (Or.inl ⟨by rfl, ?_⟩) ?_ ?_
  rotate_left
  ·intro w'
   go_simp
   with_reducible rfl
  rotate_left
  ·simp only [Act.put, List.setIfInBounds_toArray, List.set_cons_zero, List.set_cons_succ, i64_w, i32_w]
   rfl
  refine pure_ (i := 9) (N := some 27) (v := ?_) (a' := ?_) #[tt_,tt_,tt_,tt_,tt_,tt_,tt_,tt_,tt_,tt_,ff_,ff_] rfl rfl (by kernel_rfl) (fun _ _ _ h => h) (Or.inl ⟨by rfl, ?_⟩) ?_ ?_
  rotate_left
  ·intro w'
   go_simp
   with_reducible rfl
  rotate_left
  ·simp only [Act.put, List.setIfInBounds_toArray, List.set_cons_zero, List.set_cons_succ, i64_w, i32_w]
   rfl
  refine take_ (i := 10) (N := some 28) (v := ?_) (a' := ?_) #[tt_,tt_,tt_,tt_,tt_,tt_,tt_,tt_,tt_,tt_,tt_,ff_] rfl rfl (by kernel_rfl) (fun _ _ _ h => h) (Or.inl ⟨by rfl, ?_⟩) hHeld ?_ ?_
  rotate_left
  ·rintro w' ⟨s0, s1, s2⟩
   go_simp
   with_reducible rfl
  rotate_left
  ·simp only [Act.put, List.setIfInBounds_toArray, List.set_cons_zero, List.set_cons_succ, i64_w, i32_w]
   rfl
  refine pure_ (i := 11) (N := some 7) (v := ?_) (a' := ?_) #[tt_,tt_,tt_,tt_,tt_,tt_,tt_,tt_,tt_,tt_,tt_,tt_] rfl rfl (by kernel_rfl) (fun _ _ _ h => h) (Or.inl ⟨by rfl, ?_⟩) ?_ ?_
  rotate_left
  ·intro w'
   go_simp
   with_reducible rfl
  rotate_left
  ·simp only [Act.put, List.setIfInBounds_toArray, List.set_cons_zero, List.set_cons_succ, i64_w, i32_w]
   rfl
  refine done_ (by kernel_rfl) ?_
  clear hp0 a0 q0
  go_wp2_with (first | (go_at_call 37; (with_reducible refine (rNaN_calls y HY.out _).mono ?_); rw [c0]; rintro e w3 ⟨rfl, hd⟩; have hb := hd.below; clear hd; have B_3 := Aside0.mk (below_step B_2.out hb); have R_3 := Aside0.mk (blk_below R_2.out hb); clear R_2; clear hb) | ((with_reducible refine gate_store (p := 4) rfl ?_); refine store_event rfl rfl rfl gr #[.int .u32 0, .int .u32 0, .bool false] _ 32 rfl rfl R_3.out size32 rfl (by simp [Value.oneCell']) ?_; intro w4 hm_ hst_ hbl_; have B_4 := Aside0.mk (B_3.out.trans (hbl_ _ GR.out)); have R_4 := Aside0.mk (hm_); clear R_3 hm_ hst_ hbl_))
  refine bodyPost_ret (results_ct rfl _ _ gr 32 #[.int .u32 0, .int .u32 0, .bool false] (0, 0) _ rfl R_4.out Try.underlying32 rfl (by kernel_rfl)) rfl ?_
  exact ⟨rfl, B_4.out⟩
 cases c1 : lt (F hi) y
 case true =>
  have hno : noY F hi y = true := by unfold noY; rw [c0, c1]; rfl
  rw [lst_no hno, if_pos hno]
  clear hno
  go_enter Try.func12, Try.ntmps12
  go_wp2_with (((with_reducible refine gate_dst (N := 4) rfl ?_); refine box_event ?hg (N := 4) ?hd (cs := #[.int .u32 0, .int .u32 0, .bool false]) (t := 32) ?hr ?_; (case hd => rfl); (case hg => rfl); (case hr => first | (go_simp; done) | (go_simp; rfl)); intro gr hg_ w1 hm_ hb_; have GR := Aside0.mk (show w.heap.size ≤ gr by rw [hg_]; exact B_0.out.size); have B_1 := Aside0.mk (below_step B_0.out hb_); have R_1 := Aside0.mk (hm_); obtain ⟨hp0, a0, q0⟩ := (⟨pw_cell_below B_1.out HCE.out.1, pw_cell_below B_1.out HCE.out.2.1, pw_cell_below B_1.out HCE.out.2.2⟩ : _ ∧ _ ∧ _); clear hm_ hb_ hg_))
  have B_2 : Aside0 (Below w.heap.size w w1.drew) := ⟨below_drew B_1.out⟩
  have R_2 := Aside0.mk (blk_drew R_1.out)
  clear B_1 R_1
  refine start_ (n := 12) (S := fun w' => w'.cell? ad = some (.slice (some b0) m1 cz) ∧ w'.cell? b0 = some (.int .u32 (lo : Int)) ∧ w'.cell? (b0.add (m * 2)) = some (.int .u32 (hi : Int))) (ds := []) #[ff_,ff_,ff_,ff_,ff_,ff_,ff_,ff_,ff_,ff_,ff_,ff_] (by kernel_rfl) rfl rfl ⟨hp0, a0, q0⟩ (fun hHeld => ?_)
  generalize w1.drew = w2 at *
  refine pure_ (i := 0) (N := some 18) (v := ?_) (a' := ?_) #[tt_,ff_,ff_,ff_,ff_,ff_,ff_,ff_,ff_,ff_,ff_,ff_] rfl rfl (by kernel_rfl) (fun _ _ _ h => h) (Or.inl ⟨by rfl, ?_⟩) ?_ ?_
  rotate_left
  ·intro w'
   go_simp
   with_reducible rfl
  rotate_left
  ·simp only [Act.put, List.setIfInBounds_toArray, List.set_cons_zero, List.set_cons_succ, i64_w, i32_w]
   rfl
  refine pure_ (i := 1) (N := some 19) (v := ?_) (a' := ?_) #[tt_,tt_,ff_,ff_,ff_,ff_,ff_,ff_,ff_,ff_,ff_,ff_] rfl rfl (by kernel_rfl) (fun _ _ _ h => h) (Or.inl ⟨by rfl, ?_⟩) ?_ ?_
  rotate_left
  ·intro w'
   go_simp
   with_reducible rfl
  rotate_left
  ·simp only [Act.put, List.setIfInBounds_toArray, List.set_cons_zero, List.set_cons_succ, i64_w, i32_w]
   rfl
  refine pure_ (i := 3) (N := some 21) (v := ?_) (a' := ?_) #[tt_,tt_,ff_,tt_,ff_,ff_,ff_,ff_,ff_,ff_,ff_,ff_] rfl rfl (by kernel_rfl) (fun _ _ _ h => h) (Or.inl ⟨by rfl, ?_⟩) ?_ ?_
  rotate_left
  ·intro w'
   go_simp
   with_reducible rfl
  rotate_left
  ·simp only [Act.put, List.setIfInBounds_toArray, List.set_cons_zero, List.set_cons_succ, i64_w, i32_w]
   rfl
  refine pure_ (i := 4) (N := some 22) (v := ?_) (a' := ?_) #[tt_,tt_,ff_,tt_,tt_,ff_,ff_,ff_,ff_,ff_,ff_,ff_] rfl rfl (by kernel_rfl) (fun _ _ _ h => h) (Or.inl ⟨by rfl, ?_⟩) ?_ ?_
  rotate_left
  ·intro w'
   go_simp
   with_reducible rfl
  rotate_left
  ·simp only [Act.put, List.setIfInBounds_toArray, List.set_cons_zero, List.set_cons_succ, i64_w, i32_w]
   rfl
  refine take_ (i := 2) (N := some 20) (v := ?_) (a' := ?_) #[tt_,tt_,tt_,tt_,tt_,ff_,ff_,ff_,ff_,ff_,ff_,ff_] rfl rfl (by kernel_rfl) (fun _ _ _ h => h) (Or.inl ⟨by rfl, ?_⟩) hHeld ?_ ?_
  rotate_left
  ·rintro w' ⟨s0, s1, s2⟩
   go_simp
   with_reducible rfl
  rotate_left
  ·simp only [Act.put, List.setIfInBounds_toArray, List.set_cons_zero, List.set_cons_succ, i64_w, i32_w]
   rfl
  refine take_ (i := 5) (N := some 23) (v := ?_) (a' := ?_) #[tt_,tt_,tt_,tt_,tt_,tt_,ff_,ff_,ff_,ff_,ff_,ff_] rfl rfl (by kernel_rfl) (fun _ _ _ h => h) (Or.inl ⟨by rfl, ?_⟩) hHeld ?_ ?_
  rotate_left
  ·rintro w' ⟨s0, s1, s2⟩
   go_simp
   with_reducible rfl
  rotate_left
  ·simp only [Act.put, List.setIfInBounds_toArray, List.set_cons_zero, List.set_cons_succ, i64_w, i32_w]
   rfl
  refine pure_ (i := 6) (N := some 24) (v := ?_) (a' := ?_) #[tt_,tt_,tt_,tt_,tt_,tt_,tt_,ff_,ff_,ff_,ff_,ff_] rfl rfl (by kernel_rfl) (fun _ _ _ h => h) (Or.inl ⟨by rfl, ?_⟩) ?_ ?_
  rotate_left
  ·intro w'
   go_simp
   with_reducible rfl
  rotate_left
  ·simp only [Act.put, List.setIfInBounds_toArray, List.set_cons_zero, List.set_cons_succ, i64_w, i32_w]
   rfl
  refine pure_ (i := 7) (N := some 25) (v := ?_) (a' := ?_) #[tt_,tt_,tt_,tt_,tt_,tt_,tt_,tt_,ff_,ff_,ff_,ff_] rfl rfl (by kernel_rfl) (fun _ _ _ h => h) (Or.inl ⟨by rfl, ?_⟩) ?_ ?_
  rotate_left
  ·intro w'
   go_simp
   with_reducible rfl
  rotate_left
  ·simp only [Act.put, List.setIfInBounds_toArray, List.set_cons_zero, List.set_cons_succ, i64_w, i32_w]
   rfl
  refine pure_ (i := 8) (N := some 26) (v := ?_) (a' := ?_) #[tt_,tt_,tt_,tt_,tt_,tt_,tt_,tt_,tt_,ff_,ff_,ff_] rfl rfl (by kernel_rfl) (fun _ _ _ h => h) (Or.inl ⟨by rfl, ?_⟩) ?_ ?_
  rotate_left
  ·intro w'
   go_simp
   with_reducible rfl
  rotate_left
  ·simp only [Act.put, List.setIfInBounds_toArray, List.set_cons_zero, List.set_cons_succ, i64_w, i32_w]
   rfl
  refine pure_ (i := 9) (N := some 27) (v := ?_) (a' := ?_) #[tt_,tt_,tt_,tt_,tt_,tt_,tt_,tt_,tt_,tt_,ff_,ff_] rfl rfl (by kernel_rfl) (fun _ _ _ h => h) (Or.inl ⟨by rfl, ?_⟩) ?_ ?_
  rotate_left
  ·intro w'
   go_simp
   with_reducible rfl
  rotate_left
  ·simp only [Act.put, List.setIfInBounds_toArray, List.set_cons_zero, List.set_cons_succ, i64_w, i32_w]
   rfl
  refine take_ (i := 10) (N := some 28) (v := ?_) (a' := ?_) #[tt_,tt_,tt_,tt_,tt_,tt_,tt_,tt_,tt_,tt_,tt_,ff_] rfl rfl (by kernel_rfl) (fun _ _ _ h => h) (Or.inl ⟨by rfl, ?_⟩) hHeld ?_ ?_
  rotate_left
  ·rintro w' ⟨s0, s1, s2⟩
   go_simp
   with_reducible rfl
  rotate_left
  ·simp only [Act.put, List.setIfInBounds_toArray, List.set_cons_zero, List.set_cons_succ, i64_w, i32_w]
   rfl
  refine pure_ (i := 11) (N := some 7) (v := ?_) (a' := ?_) #[tt_,tt_,tt_,tt_,tt_,tt_,tt_,tt_,tt_,tt_,tt_,tt_] rfl rfl (by kernel_rfl) (fun _ _ _ h => h) (Or.inl ⟨by rfl, ?_⟩) ?_ ?_
  rotate_left
  ·intro w'
   go_simp
   with_reducible rfl
  rotate_left
  ·simp only [Act.put, List.setIfInBounds_toArray, List.set_cons_zero, List.set_cons_succ, i64_w, i32_w]
   rfl
  refine done_ (by kernel_rfl) ?_
  clear hp0 a0 q0
  go_wp2_with (first | (go_at_call 37; (with_reducible refine (rNaN_calls y HY.out _).mono ?_); rw [c0]; rintro e w3 ⟨rfl, hd⟩; have hb := hd.below; clear hd; have B_3 := Aside0.mk (below_step B_2.out hb); have R_3 := Aside0.mk (blk_below R_2.out hb); clear R_2; clear hb) | (go_at_call 35; (with_reducible refine (HAT.out _ hi HHI.out B_3.out).mono ?_); rintro e w4 ⟨rfl, hb⟩; have B_4 := Aside0.mk (below_step B_3.out hb); have R_4 := Aside0.mk (blk_below R_3.out hb); clear R_3; clear hb) | (go_at_call 38; (with_reducible refine (rBelow_calls (F hi) y (HRF.out.word _ HHI.out) HY.out _).mono ?_); rw [c1]; rintro e w5 ⟨rfl, hd⟩; have hb := hd.below; clear hd; have B_5 := Aside0.mk (below_step B_4.out hb); have R_5 := Aside0.mk (blk_below R_4.out hb); clear R_4; clear hb) | ((with_reducible refine gate_store (p := 4) rfl ?_); refine store_event rfl rfl rfl gr #[.int .u32 0, .int .u32 0, .bool false] _ 32 rfl rfl R_5.out size32 rfl (by simp [Value.oneCell']) ?_; intro w6 hm_ hst_ hbl_; have B_6 := Aside0.mk (B_5.out.trans (hbl_ _ GR.out)); have R_6 := Aside0.mk (hm_); clear R_5 hm_ hst_ hbl_))
  refine bodyPost_ret (results_ct rfl _ _ gr 32 #[.int .u32 0, .int .u32 0, .bool false] (0, 0) _ rfl R_6.out Try.underlying32 rfl (by kernel_rfl)) rfl ?_
  exact ⟨rfl, B_6.out⟩
 have hno : noY F hi y = false := by unfold noY; rw [c0, c1]; rfl
 rw [hno, if_neg (by decide)]
 have HNO := Aside0.mk hno
 obtain ⟨p, hp⟩ : ∃ p, lst F lo hi y = p := ⟨_, rfl⟩
 rw [hp]
 have HP := Aside0.mk hp
 obtain ⟨ka, hka⟩ : ∃ a, kf lo = a := ⟨_, rfl⟩
 obtain ⟨kb, hkb⟩ : ∃ a, kf hi = a := ⟨_, rfl⟩
 have HKA := Aside0.mk hka
 have HKB := Aside0.mk hkb
 have HAB : Aside0 (ka ≤ kb ∧ kb < 4294967296) := ⟨by rw [← hka, ← hkb]; exact ⟨HEN.out.2.2.2.2, kf_word HHI.out⟩⟩
 have PB : Aside0 (lt (F (fk kb)) y = false) := ⟨by rw [← hkb, fk_kf' HHI.out]; exact c1⟩
 have HC0 := Aside0.mk c0
 clear hno hp hka hkb
 go_enter Try.func12, Try.ntmps12
 go_wp2_with (((with_reducible refine gate_dst (N := 4) rfl ?_); refine box_event ?hg (N := 4) ?hd (cs := #[.int .u32 0, .int .u32 0, .bool false]) (t := 32) ?hr ?_; (case hd => rfl); (case hg => rfl); (case hr => first | (go_simp; done) | (go_simp; rfl)); intro gr hg_ w1 hm_ hb_; have GR := Aside0.mk (show w.heap.size ≤ gr by rw [hg_]; exact B_0.out.size); have B_1 := Aside0.mk (below_step B_0.out hb_); have R_1 := Aside0.mk (hm_); obtain ⟨hp0, a0, q0⟩ := (⟨pw_cell_below B_1.out HCE.out.1, pw_cell_below B_1.out HCE.out.2.1, pw_cell_below B_1.out HCE.out.2.2⟩ : _ ∧ _ ∧ _); clear hm_ hb_ hg_))
 have B_2 : Aside0 (Below w.heap.size w w1.drew) := ⟨below_drew B_1.out⟩
 have R_2 := Aside0.mk (blk_drew R_1.out)
 clear B_1 R_1
 refine start_ (n := 12) (S := fun w' => w'.cell? ad = some (.slice (some b0) m1 cz) ∧ w'.cell? b0 = some (.int .u32 (lo : Int)) ∧ w'.cell? (b0.add (m * 2)) = some (.int .u32 (hi : Int))) (ds := []) #[ff_,ff_,ff_,ff_,ff_,ff_,ff_,ff_,ff_,ff_,ff_,ff_] (by kernel_rfl) rfl rfl ⟨hp0, a0, q0⟩ (fun hHeld => ?_)
 generalize w1.drew = w2 at *
 refine pure_ (i := 0) (N := some 18) (v := ?_) (a' := ?_) #[tt_,ff_,ff_,ff_,ff_,ff_,ff_,ff_,ff_,ff_,ff_,ff_] rfl rfl (by kernel_rfl) (fun _ _ _ h => h) (Or.inl ⟨by rfl, ?_⟩) ?_ ?_
 rotate_left
 ·intro w'
  go_simp
  with_reducible rfl
 rotate_left
 ·simp only [Act.put, List.setIfInBounds_toArray, List.set_cons_zero, List.set_cons_succ, i64_w, i32_w]
  rfl
 refine pure_ (i := 1) (N := some 19) (v := ?_) (a' := ?_) #[tt_,tt_,ff_,ff_,ff_,ff_,ff_,ff_,ff_,ff_,ff_,ff_] rfl rfl (by kernel_rfl) (fun _ _ _ h => h) (Or.inl ⟨by rfl, ?_⟩) ?_ ?_
 rotate_left
 ·intro w'
  go_simp
  with_reducible rfl
 rotate_left
 ·simp only [Act.put, List.setIfInBounds_toArray, List.set_cons_zero, List.set_cons_succ, i64_w, i32_w]
  rfl
 refine pure_ (i := 3) (N := some 21) (v := ?_) (a' := ?_) #[tt_,tt_,ff_,tt_,ff_,ff_,ff_,ff_,ff_,ff_,ff_,ff_] rfl rfl (by kernel_rfl) (fun _ _ _ h => h) (Or.inl ⟨by rfl, ?_⟩) ?_ ?_
 rotate_left
 ·intro w'
  go_simp
  with_reducible rfl
 rotate_left
 ·simp only [Act.put, List.setIfInBounds_toArray, List.set_cons_zero, List.set_cons_succ, i64_w, i32_w]
  rfl
 refine pure_ (i := 4) (N := some 22) (v := ?_) (a' := ?_) #[tt_,tt_,ff_,tt_,tt_,ff_,ff_,ff_,ff_,ff_,ff_,ff_] rfl rfl (by kernel_rfl) (fun _ _ _ h => h) (Or.inl ⟨by rfl, ?_⟩) ?_ ?_
 rotate_left
 ·intro w'
  go_simp
  with_reducible rfl
 rotate_left
 ·simp only [Act.put, List.setIfInBounds_toArray, List.set_cons_zero, List.set_cons_succ, i64_w, i32_w]
  rfl
 refine take_ (i := 2) (N := some 20) (v := ?_) (a' := ?_) #[tt_,tt_,tt_,tt_,tt_,ff_,ff_,ff_,ff_,ff_,ff_,ff_] rfl rfl (by kernel_rfl) (fun _ _ _ h => h) (Or.inl ⟨by rfl, ?_⟩) hHeld ?_ ?_
 rotate_left
 ·rintro w' ⟨s0, s1, s2⟩
  go_simp
  with_reducible rfl
 rotate_left
 ·simp only [Act.put, List.setIfInBounds_toArray, List.set_cons_zero, List.set_cons_succ, i64_w, i32_w]
  rfl
 refine take_ (i := 5) (N := some 23) (v := ?_) (a' := ?_) #[tt_,tt_,tt_,tt_,tt_,tt_,ff_,ff_,ff_,ff_,ff_,ff_] rfl rfl (by kernel_rfl) (fun _ _ _ h => h) (Or.inl ⟨by rfl, ?_⟩) hHeld ?_ ?_
 rotate_left
 ·rintro w' ⟨s0, s1, s2⟩
  go_simp
  with_reducible rfl
 rotate_left
 ·simp only [Act.put, List.setIfInBounds_toArray, List.set_cons_zero, List.set_cons_succ, i64_w, i32_w]
  rfl
 refine pure_ (i := 6) (N := some 24) (v := ?_) (a' := ?_) #[tt_,tt_,tt_,tt_,tt_,tt_,tt_,ff_,ff_,ff_,ff_,ff_] rfl rfl (by kernel_rfl) (fun _ _ _ h => h) (Or.inl ⟨by rfl, ?_⟩) ?_ ?_
 rotate_left
 ·intro w'
  go_simp
  with_reducible rfl
 rotate_left
 ·simp only [Act.put, List.setIfInBounds_toArray, List.set_cons_zero, List.set_cons_succ, i64_w, i32_w]
  rfl
 refine pure_ (i := 7) (N := some 25) (v := ?_) (a' := ?_) #[tt_,tt_,tt_,tt_,tt_,tt_,tt_,tt_,ff_,ff_,ff_,ff_] rfl rfl (by kernel_rfl) (fun _ _ _ h => h) (Or.inl ⟨by rfl, ?_⟩) ?_ ?_
 rotate_left
 ·intro w'
  go_simp
  with_reducible rfl
 rotate_left
 ·simp only [Act.put, List.setIfInBounds_toArray, List.set_cons_zero, List.set_cons_succ, i64_w, i32_w]
  rfl
 refine pure_ (i := 8) (N := some 26) (v := ?_) (a' := ?_) #[tt_,tt_,tt_,tt_,tt_,tt_,tt_,tt_,tt_,ff_,ff_,ff_] rfl rfl (by kernel_rfl) (fun _ _ _ h => h) (Or.inl ⟨by rfl, ?_⟩) ?_ ?_
 rotate_left
 ·intro w'
  go_simp
  with_reducible rfl
 rotate_left
 ·simp only [Act.put, List.setIfInBounds_toArray, List.set_cons_zero, List.set_cons_succ, i64_w, i32_w]
  rfl
 refine pure_ (i := 9) (N := some 27) (v := ?_) (a' := ?_) #[tt_,tt_,tt_,tt_,tt_,tt_,tt_,tt_,tt_,tt_,ff_,ff_] rfl rfl (by kernel_rfl) (fun _ _ _ h => h) (Or.inl ⟨by rfl, ?_⟩) ?_ ?_
 rotate_left
 ·intro w'
  go_simp
  with_reducible rfl
 rotate_left
 ·simp only [Act.put, List.setIfInBounds_toArray, List.set_cons_zero, List.set_cons_succ, i64_w, i32_w]
  rfl
 refine take_ (i := 10) (N := some 28) (v := ?_) (a' := ?_) #[tt_,tt_,tt_,tt_,tt_,tt_,tt_,tt_,tt_,tt_,tt_,ff_] rfl rfl (by kernel_rfl) (fun _ _ _ h => h) (Or.inl ⟨by rfl, ?_⟩) hHeld ?_ ?_
 rotate_left
 ·rintro w' ⟨s0, s1, s2⟩
  go_simp
  with_reducible rfl
 rotate_left
 ·simp only [Act.put, List.setIfInBounds_toArray, List.set_cons_zero, List.set_cons_succ, i64_w, i32_w]
  rfl
 refine pure_ (i := 11) (N := some 7) (v := ?_) (a' := ?_) #[tt_,tt_,tt_,tt_,tt_,tt_,tt_,tt_,tt_,tt_,tt_,tt_] rfl rfl (by kernel_rfl) (fun _ _ _ h => h) (Or.inl ⟨by rfl, ?_⟩) ?_ ?_
 rotate_left
 ·intro w'
  go_simp
  with_reducible rfl
 rotate_left
 ·simp only [Act.put, List.setIfInBounds_toArray, List.set_cons_zero, List.set_cons_succ, i64_w, i32_w]
  rfl
 refine done_ (by kernel_rfl) ?_
 clear hp0 a0 q0
 go_wp2_with (first | (go_at_call 37; (with_reducible refine (rNaN_calls y HY.out _).mono ?_); rw [c0]; rintro e w3 ⟨rfl, hd⟩; have hb := hd.below; clear hd; have B_3 := Aside0.mk (below_step B_2.out hb); have R_3 := Aside0.mk (blk_below R_2.out hb); clear R_2; clear hb) | (go_at_call 35; (with_reducible refine (HAT.out _ hi HHI.out B_3.out).mono ?_); rintro e w4 ⟨rfl, hb⟩; have B_4 := Aside0.mk (below_step B_3.out hb); have R_4 := Aside0.mk (blk_below R_3.out hb); clear R_3; clear hb) | (go_at_call 38; (with_reducible refine (rBelow_calls (F hi) y (HRF.out.word _ HHI.out) HY.out _).mono ?_); rw [c1]; rintro e w5 ⟨rfl, hd⟩; have hb := hd.below; clear hd; have B_5 := Aside0.mk (below_step B_4.out hb); have R_5 := Aside0.mk (blk_below R_4.out hb); clear R_4; clear hb) | (go_at_call 29; (with_reducible refine (rKey_calls lo HLO.out _).mono ?_); rw [HKA.out]; rintro e w6 ⟨rfl, hd⟩; have hb := hd.below; clear hd; have B_6 := Aside0.mk (below_step B_5.out hb); have R_6 := Aside0.mk (blk_below R_5.out hb); clear R_5; clear hb) | (go_at_call 29; (with_reducible refine (rKey_calls hi HHI.out _).mono ?_); rw [HKB.out]; rintro e w7 ⟨rfl, hd⟩; have hb := hd.below; clear hd; have B_7 := Aside0.mk (below_step B_6.out hb); have R_7 := Aside0.mk (blk_below R_6.out hb); clear R_6; clear hb))
 have GRW := GR
 go_loopg [8, 9] (kb - ka) (fun kx s8 s9 wr => ∃ (kl kh : Nat), s8 = .int .i64 (kl : Int) ∧ s9 = .int .i64 (kh : Int) ∧ kl ≤ kh ∧ ka ≤ kl ∧ kh ≤ kb ∧ kh - kl ≤ kx ∧ Aside0 (Below w.heap.size w wr) ∧ Aside0 (wr.heap[gr]? = some (.cells #[.int .u32 0, .int .u32 0, .bool false] 32 (0, 0))) ∧ Aside0 ((kl = ka ∨ lt (F (fk (kl - 1))) y = true) ∧ lt (F (fk kh)) y = false))
 case atStart => exact ⟨ka, kb, rfl, rfl, HAB.out.1, Nat.le_refl _, Nat.le_refl _, Nat.le_refl _, ⟨B_7.out⟩, ⟨R_7.out⟩, ⟨.inl rfl, PB.out⟩⟩
 case round =>
  obtain ⟨kl, kh, rfl, rfl, k1, k2, k3, k4, B_0, R_0, I⟩ := hrel
  have hkb4 := HAB.out.2
  have HK2 : Aside0 (ka ≤ kl ∧ kl ≤ kh ∧ kh ≤ kb) := ⟨k2, k1, k3⟩
  by_cases hlt : kl < kh
  ·have t1 : decide ((kl : Int) < (kh : Int)) = true := decide_eq_true (by omega)
   have t2 : (kl < kh) = True := eq_true hlt
   obtain ⟨d, hd⟩ : ∃ d, kh - kl = d := ⟨_, rfl⟩
   obtain ⟨d2, hd2⟩ : ∃ d2, d / 2 = d2 := ⟨_, rfl⟩
   obtain ⟨mid, hmid⟩ : ∃ mid, kl + d2 = mid := ⟨_, rfl⟩
   have w1 : IntKind.i64.wrap ((kh : Int) - (kl : Int)) = (d : Int) := by rw [show IntKind.i64.wrap ((kh : Int) - (kl : Int)) = wrap64 ((kh : Int) - (kl : Int)) from i64_w _, w64 (by omega) (by omega)]; omega
   have w2 : (d : Int).tdiv 2 = (d2 : Int) := by rw [← hd2]; rfl
   have w2b : (d : Int) / 2 = (d2 : Int) := by rw [← hd2]; rfl
   have w2c : IntKind.i64.wrap (d2 : Int) = (d2 : Int) := by rw [show IntKind.i64.wrap (d2 : Int) = wrap64 (d2 : Int) from i64_w _, w64 (by omega) (by omega)]
   have w3 : IntKind.i64.wrap ((kl : Int) + (d2 : Int)) = (mid : Int) := by rw [show IntKind.i64.wrap ((kl : Int) + (d2 : Int)) = wrap64 ((kl : Int) + (d2 : Int)) from i64_w _, w64 (by omega) (by omega)]; omega
   have w4 : IntKind.i64.wrap ((mid : Int) + 1) = ((mid + 1 : Nat) : Int) := by rw [show IntKind.i64.wrap ((mid : Int) + 1) = wrap64 ((mid : Int) + 1) from i64_w _, w64 (by omega) (by omega)]; omega
   have HMW : Aside0 (mid < 4294967296) := ⟨by omega⟩
   have HFM : Aside0 (fk mid < 4294967296) := ⟨fk_word HMW.out⟩
   have HM2 : Aside0 (kl ≤ mid ∧ mid < kh ∧ kh - (mid + 1) < kh - kl ∧ mid - kl < kh - kl) := ⟨by omega⟩
   clear hd hd2 hmid hlt hkb4
   cases c5 : lt (F (fk mid)) y
   ·have C5 := Aside0.mk c5
    go_wp2_with (first | (go_at_call 39; (with_reducible refine (rFromKey_calls mid HMW.out _).mono ?_); rintro e _ ⟨rfl, rfl⟩) | (go_at_call 35; (with_reducible refine (HAT.out _ (fk mid) HFM.out B_0.out).mono ?_); rintro e w1 ⟨rfl, hb⟩; have B_1 := Aside0.mk (below_step B_0.out hb); have R_1 := Aside0.mk (blk_below R_0.out hb); clear R_0; clear hb) | (go_at_call 38; (with_reducible refine (rBelow_calls (F (fk mid)) y (HRF.out.word _ HFM.out) HY.out _).mono ?_); rw [c5]; rintro e w2 ⟨rfl, hd⟩; have hb := hd.below; clear hd; have B_2 := Aside0.mk (below_step B_1.out hb); have R_2 := Aside0.mk (blk_below R_1.out hb); clear R_1; clear hb))
    go_roundg (mid - kl)
    case measure => have := HM2.out; omega
    case rel => exact ⟨kl, mid, rfl, rfl, HM2.out.1, HK2.out.1, by have := HM2.out; have := HK2.out; omega, by omega, B_2, R_2, ⟨I.out.1, C5.out⟩⟩
   ·have C5 := Aside0.mk c5
    go_wp2_with (first | (go_at_call 39; (with_reducible refine (rFromKey_calls mid HMW.out _).mono ?_); rintro e _ ⟨rfl, rfl⟩) | (go_at_call 35; (with_reducible refine (HAT.out _ (fk mid) HFM.out B_0.out).mono ?_); rintro e w1 ⟨rfl, hb⟩; have B_1 := Aside0.mk (below_step B_0.out hb); have R_1 := Aside0.mk (blk_below R_0.out hb); clear R_0; clear hb) | (go_at_call 38; (with_reducible refine (rBelow_calls (F (fk mid)) y (HRF.out.word _ HFM.out) HY.out _).mono ?_); rw [c5]; rintro e w2 ⟨rfl, hd⟩; have hb := hd.below; clear hd; have B_2 := Aside0.mk (below_step B_1.out hb); have R_2 := Aside0.mk (blk_below R_1.out hb); clear R_1; clear hb))
    go_roundg (kh - (mid + 1))
    case measure => have := HM2.out; omega
    case rel => exact ⟨mid + 1, kh, by first | rfl | (congr 1; omega), rfl, HM2.out.2.1, by have := HM2.out; have := HK2.out; omega, HK2.out.2.2, by omega, B_2, R_2, ⟨.inr (by rw [Nat.add_sub_cancel]; exact C5.out), I.out.2⟩⟩
  ·obtain rfl : kl = kh := by omega
   have dd : decide ((kl : Int) < (kl : Int)) = false := decide_eq_false (by omega)
   have HKW : Aside0 (kl < 4294967296) := ⟨by omega⟩
   have hN : lstN F lo hi y = kl - ka := by
    have en := HEN.out
    have hka := HKA.out
    have hkb := HKB.out
    refine (srch_uniq (p := fun i => !lt (F (fk (kf lo + i))) y) (n := kf hi - kf lo) (fun i j hij hj hp => rs_mono HRF.out en.1 en.2.1 en.2.2.1 en.2.2.2.1 en.2.2.2.2 HY.out HC0.out i j hij (Nat.le_of_lt hj) hp) (fs_srch _ _) ?_)
    rw [hka, hkb]
    refine ⟨by omega, ?_, .inr ?_⟩
    ·rcases I.out.1 with e | e
     ·exact .inl (by omega)
     ·by_cases e0 : kl = ka
      ·exact .inl (by omega)
      ·refine .inr ?_
       show (!lt (F (fk (ka + (kl - ka - 1)))) y) = false
       rw [show ka + (kl - ka - 1) = kl - 1 by omega, e]; rfl
    ·show (!lt (F (fk (ka + (kl - ka)))) y) = true
     rw [show ka + (kl - ka) = kl by omega, I.out.2]; rfl
   by_cases h0 : kl = ka
   ·have hp : p = ⟨lo, 0, false⟩ := by rw [← HP.out]; exact lst_0 HNO.out (by rw [hN]; omega)
    have hfl : fk kl = lo := by rw [h0, ← HKA.out, fk_kf' HLO.out]
    have HPE : Aside0 (p = ⟨fk kl, 0, false⟩) := ⟨by rw [hp, hfl]⟩
    have t1 : (((fk kl : Nat) : Int) != (lo : Int)) = false := by rw [bne_eq_false_iff_eq]; omega
    have t2 : decide (((fk kl : Nat) : Int) = (lo : Int)) = true := decide_eq_true (by omega)
    have t3 : (fk kl = lo) = True := eq_true hfl
    clear hp hfl h0 hN hlt k1 k2 k3 k4 hkb4
    go_wp2_with (first | (go_at_call 39; (with_reducible refine (rFromKey_calls kl HKW.out _).mono ?_); rintro e _ ⟨rfl, rfl⟩) | ((with_reducible refine gate_dst (N := 11) rfl ?_); refine box_event ?hg (N := 11) ?hd (cs := #[.int .u32 0, .int .u32 0, .bool false]) (t := 32) ?hr ?_; (case hd => rfl); (case hg => rfl); (case hr => first | (go_simp; done) | (go_simp; rfl)); intro gp hg_ w1 hm_ hb_; have NERP := Aside0.mk (show gr ≠ gp by rw [hg_]; have := blk_lt R_0.out; omega); have GP := Aside0.mk (show w.heap.size ≤ gp by rw [hg_]; exact B_0.out.size); have B_1 := Aside0.mk (below_step B_0.out hb_); have R_1 := Aside0.mk (blk_below R_0.out hb_); clear R_0; have P_1 := Aside0.mk (hm_); have cP0 := (blk_cell P_1.out 0).trans rfl; have cP1 := (blk_cell P_1.out 1).trans rfl; have cP2 := (blk_cell P_1.out 2).trans rfl; clear hm_ hb_ hg_) | ((with_reducible refine gate_store (p := 11) rfl ?_); refine store_event rfl rfl rfl gp #[.int .u32 ((fk kl : Nat) : Int), .int .u32 0, .bool false] _ 32 rfl rfl P_1.out size32 rfl (by simp [Value.oneCell']) ?_; intro w2 hm_ hst_ hbl_; clear cP0 cP1 cP2; have B_2 := Aside0.mk (B_1.out.trans (hbl_ _ GP.out)); have R_2 := Aside0.mk ((hst_ gr NERP.out).trans R_1.out); have P_2 := Aside0.mk (hm_); clear R_1 P_1 hm_ hst_ hbl_; have cP0 := (blk_cell P_2.out 0).trans rfl; have cP1 := (blk_cell P_2.out 1).trans rfl; have cP2 := (blk_cell P_2.out 2).trans rfl) | ((with_reducible refine gate_dst (N := 73) rfl ?_); refine Kd.event_run rfl (v := .agg #[.int .u32 ((fk kl : Nat) : Int), .int .u32 0, .bool false]) (w1 := w2) ?hr ?_; (case hr => exact load32 (by rfl) rfl (P_2.out))) | ((with_reducible refine gate_store (p := 4) rfl ?_); refine store_event rfl rfl rfl gr #[.int .u32 ((fk kl : Nat) : Int), .int .u32 0, .bool false] _ 32 rfl rfl R_2.out size32 rfl (by simp [Value.oneCell']) ?_; intro w3 hm_ hst_ hbl_; clear cP0 cP1 cP2; have B_3 := Aside0.mk (B_2.out.trans (hbl_ _ GR.out)); have P_3 := Aside0.mk ((hst_ gp NERP.out.symm).trans P_2.out); have R_3 := Aside0.mk (hm_); clear R_2 P_2 hm_ hst_ hbl_; have cP0 := (blk_cell P_3.out 0).trans rfl; have cP1 := (blk_cell P_3.out 1).trans rfl; have cP2 := (blk_cell P_3.out 2).trans rfl))
    refine bodyPost_ret (results_ct rfl _ _ gr 32 #[.int .u32 ((fk kl : Nat) : Int), .int .u32 0, .bool false] (0, 0) _ rfl R_3.out Try.underlying32 rfl (by kernel_rfl)) rfl ?_
    exact ⟨by rw [HPE.out]; rfl, B_3.out⟩
   ·obtain ⟨kp, hkp⟩ : ∃ kp, kl = kp + 1 := ⟨kl - 1, by omega⟩
    have hp : p = ⟨fk kl, fk kp, true⟩ := by
     rw [← HP.out, lst_n HNO.out (by rw [hN]; omega), hN, HKA.out, show ka + (kl - ka) = kl by omega, show kl - 1 = kp by omega]
    have hfl : fk kl ≠ lo := by
     intro e
     have := congrArg kf e
     rw [kf_fk' HKW.out, HKA.out] at this
     exact h0 this
    have HPE := Aside0.mk hp
    have HPW : Aside0 (kp < 4294967296) := ⟨by omega⟩
    have wk : IntKind.i64.wrap ((kl : Int) - 1) = (kp : Int) := by rw [show IntKind.i64.wrap ((kl : Int) - 1) = wrap64 ((kl : Int) - 1) from i64_w _, w64 (by omega) (by omega)]; omega
    have t1 : (((fk kl : Nat) : Int) != (lo : Int)) = true := by rw [bne_iff_ne]; omega
    have t2 : decide (((fk kl : Nat) : Int) = (lo : Int)) = false := decide_eq_false (by omega)
    have t3 : (fk kl = lo) = False := eq_false hfl
    clear hp hfl h0 hN hlt k1 k2 k3 k4 hkb4 hkp
    go_wp2_with (first | (go_at_call 39; (with_reducible refine (rFromKey_calls kl HKW.out _).mono ?_); rintro e _ ⟨rfl, rfl⟩) | ((with_reducible refine gate_dst (N := 11) rfl ?_); refine box_event ?hg (N := 11) ?hd (cs := #[.int .u32 0, .int .u32 0, .bool false]) (t := 32) ?hr ?_; (case hd => rfl); (case hg => rfl); (case hr => first | (go_simp; done) | (go_simp; rfl)); intro gp hg_ w1 hm_ hb_; have NERP := Aside0.mk (show gr ≠ gp by rw [hg_]; have := blk_lt R_0.out; omega); have GP := Aside0.mk (show w.heap.size ≤ gp by rw [hg_]; exact B_0.out.size); have B_1 := Aside0.mk (below_step B_0.out hb_); have R_1 := Aside0.mk (blk_below R_0.out hb_); clear R_0; have P_1 := Aside0.mk (hm_); have cP0 := (blk_cell P_1.out 0).trans rfl; have cP1 := (blk_cell P_1.out 1).trans rfl; have cP2 := (blk_cell P_1.out 2).trans rfl; clear hm_ hb_ hg_) | ((with_reducible refine gate_store (p := 11) rfl ?_); refine store_event rfl rfl rfl gp #[.int .u32 ((fk kl : Nat) : Int), .int .u32 0, .bool false] _ 32 rfl rfl P_1.out size32 rfl (by simp [Value.oneCell']) ?_; intro w2 hm_ hst_ hbl_; clear cP0 cP1 cP2; have B_2 := Aside0.mk (B_1.out.trans (hbl_ _ GP.out)); have R_2 := Aside0.mk ((hst_ gr NERP.out).trans R_1.out); have P_2 := Aside0.mk (hm_); clear R_1 P_1 hm_ hst_ hbl_; have cP0 := (blk_cell P_2.out 0).trans rfl; have cP1 := (blk_cell P_2.out 1).trans rfl; have cP2 := (blk_cell P_2.out 2).trans rfl) | ((with_reducible refine gate_store (p := 68) rfl ?_); refine storec_event rfl rfl rfl gp 2 (.bool true) _ _ rfl rfl rfl P_2.out size4 (by simp) rfl ?_; intro w3 hm_ hst_ hbl_; clear cP0 cP1 cP2; have B_3 := Aside0.mk (B_2.out.trans (hbl_ _ GP.out)); have R_3 := Aside0.mk ((hst_ gr NERP.out).trans R_2.out); have P_3 := Aside0.mk (hm_); clear R_2 P_2 hm_ hst_ hbl_; have cP0 := (blk_cell P_3.out 0).trans rfl; have cP1 := (blk_cell P_3.out 1).trans rfl; have cP2 := (blk_cell P_3.out 2).trans rfl) | (go_at_call 39; (with_reducible refine (rFromKey_calls kp HPW.out _).mono ?_); rintro e _ ⟨rfl, rfl⟩) | ((with_reducible refine gate_store (p := 72) rfl ?_); refine storec_event rfl rfl rfl gp 1 (.int .u32 ((fk kp : Nat) : Int)) _ _ rfl rfl rfl P_3.out size30 (by simp) rfl ?_; intro w4 hm_ hst_ hbl_; clear cP0 cP1 cP2; have B_4 := Aside0.mk (B_3.out.trans (hbl_ _ GP.out)); have R_4 := Aside0.mk ((hst_ gr NERP.out).trans R_3.out); have P_4 := Aside0.mk (hm_); clear R_3 P_3 hm_ hst_ hbl_; have cP0 := (blk_cell P_4.out 0).trans rfl; have cP1 := (blk_cell P_4.out 1).trans rfl; have cP2 := (blk_cell P_4.out 2).trans rfl) | ((with_reducible refine gate_dst (N := 73) rfl ?_); refine Kd.event_run rfl (v := .agg #[.int .u32 ((fk kl : Nat) : Int), .int .u32 ((fk kp : Nat) : Int), .bool true]) (w1 := w4) ?hr ?_; (case hr => exact load32 (by rfl) rfl (P_4.out))) | ((with_reducible refine gate_store (p := 4) rfl ?_); refine store_event rfl rfl rfl gr #[.int .u32 ((fk kl : Nat) : Int), .int .u32 ((fk kp : Nat) : Int), .bool true] _ 32 rfl rfl R_4.out size32 rfl (by simp [Value.oneCell']) ?_; intro w5 hm_ hst_ hbl_; clear cP0 cP1 cP2; have B_5 := Aside0.mk (B_4.out.trans (hbl_ _ GR.out)); have P_5 := Aside0.mk ((hst_ gp NERP.out.symm).trans P_4.out); have R_5 := Aside0.mk (hm_); clear R_4 P_4 hm_ hst_ hbl_; have cP0 := (blk_cell P_5.out 0).trans rfl; have cP1 := (blk_cell P_5.out 1).trans rfl; have cP2 := (blk_cell P_5.out 2).trans rfl))
    refine bodyPost_ret (results_ct rfl _ _ gr 32 #[.int .u32 ((fk kl : Nat) : Int), .int .u32 ((fk kp : Nat) : Int), .bool true] (0, 0) _ rfl R_5.out Try.underlying32 rfl (by kernel_rfl)) rfl ?_
    exact ⟨by rw [HPE.out]; rfl, B_5.out⟩
end Go.Proofs.Ytkicfaboibfbpaa.A
end
section
set_option linter.unusedVariables false
set_option linter.unusedSimpArgs false
namespace Go.Proofs.Ytkicfaboibfbpaa.A
open Go.RowKit Go.Proofs.YtkicfaboibfbpaaW.PrintWords Go.Proofs.YtkicfaboibfbpaaW.PrintLast Go.Proofs.YtkicfaboibfbpaaW.PrintMore Go.Proofs.Ytkicfaboibfbpaa.PCurveAts
theorem KR.as {w : World} {base : Nat} {v : Value} {l : List (Nat × Nat)} (h : KR w base v l) : ∃ A n c, v = .slice A n c ∧ n = l.length := by
 obtain ⟨A, c, e⟩ := h.slice
 exact ⟨A, _, c, e, rfl⟩
end Go.Proofs.Ytkicfaboibfbpaa.A
end
section
set_option linter.unusedVariables false
set_option linter.unusedSimpArgs false
namespace Go.Proofs.Ytkicfaboibfbpaa.A
open Go.RowKit Go.Proofs.YtkicfaboibfbpaaW.PrintWords Go.Proofs.YtkicfaboibfbpaaW.PrintLast Go.Proofs.YtkicfaboibfbpaaW.PrintMore Go.Proofs.Ytkicfaboibfbpaa.PCurveAts
theorem KR.block {w : World} {base n c : Nat} {A : Option Addr} {l : List (Nat × Nat)} (h : KR w base (.slice A n c) l) (h0 : 0 < n) : ∃ r, A = some ⟨r, 0, none⟩ ∧ base ≤ r ∧ r < w.heap.size := by
 obtain ⟨inner, ho⟩ := Kd.R_own h
 rcases ho.2 with ⟨e, h1⟩ | ⟨r, cap, cur, e, h1, h2, _⟩
 ·injection e with _ e2 _
  omega
 ·injection e with e1 _ _
  exact ⟨r, e1, h1, blk_lt h2⟩
/-- a new curve: all its own -/
def NewC (w : World) (b g : Nat) (B : Option Addr) (cb : Nat) (l : List (Nat × Nat)) : Prop := b ≤ g ∧ CvB w g B cb l ∧ KR w b (.slice B l.length cb) l
theorem NewC.move {w w1 : World} {b g cb : Nat} {B : Option Addr} {l : List (Nat × Nat)} (h : NewC w b g B cb l) (hm : ∀ k, b ≤ k → k < w.heap.size → w1.heap[k]? = w.heap[k]?) : NewC w1 b g B cb l := by
 obtain ⟨h1, h2, h3⟩ := h
 have hR : KR w1 b (.slice B l.length cb) l := Kd.R_mono (Kd.R_move (Kd.R_bound h3) (fun k hk => hm k hk.2.1 hk.2.2.1)) (fun _ _ => trivial)
 exact ⟨h1, ⟨(hm g h1 (blk_lt h2.1)).trans h2.1, h2.2.1, hR.kn.2.2⟩, hR⟩
theorem NewC.below {w w1 : World} {b g cb : Nat} {B : Option Addr} {l : List (Nat × Nat)} (h : NewC w b g B cb l) (hb : Below w.heap.size w w1) : NewC w1 b g B cb l := ⟨h.1, h.2.1.below hb, h.2.2.below hb⟩
theorem New_ok {A : Option Addr} {c : Nat} {l : List (Nat × Nat)} (hl : kok l) (h64 : l.length < 1000) (hc : l.length ≤ c) (h0 : chk l = 0) (w : World) (hK : Kn w A l) : Calls Try.prog 31 #[.slice A l.length c] w fun e w' => ∃ g B cb, e = .returned (.tuple #[.pointer (some ⟨g, 0, none⟩), .int .i64 0]) ∧ NewC w' w.heap.size g B cb l ∧ Below w.heap.size w w' := by
 refine (New_calls A c l hl h64 hc w hK).mono ?_
 rintro e w' ⟨v, rfl, hb, h⟩
 obtain ⟨g, B, cb, rfl, hg, hC, hR⟩ := (h.resolve_left (fun h => h.1 h0)).2
 rw [h0]
 exact ⟨g, B, cb, rfl, ⟨hg, hC, hR⟩, hb⟩
theorem New_bad {A : Option Addr} {c : Nat} {l : List (Nat × Nat)} (hl : kok l) (h64 : l.length < 1000) (hc : l.length ≤ c) (h0 : chk l ≠ 0) (w : World) (hK : Kn w A l) : Calls Try.prog 31 #[.slice A l.length c] w fun e w' => e = .returned (.tuple #[.pointer none, .int .i64 ((chk l : Nat) : Int)]) ∧ Below w.heap.size w w' := by
 refine (New_calls A c l hl h64 hc w hK).mono ?_
 rintro e w' ⟨v, rfl, hb, h⟩
 obtain rfl := (h.resolve_right (fun h => h0 h.1)).2
 exact ⟨rfl, hb⟩
section
variable {P : Program} {ops : Array Oper} {Q : Exit → Act → World → Prop} {o : Oper} {rest : List Oper} {a : Act}
/-- a knot is stored into an own row -/
theorem put43 {w0 W : World} (base : Nat) (hN : o.dst = none) (hgd : o.guard = none) (p x : Operand) (ho : o.op = .store 43 p x) (ht : (P.info? 43).map (·.size) = some 2) {r n c o' : Nat} (i : Nat) (ll : List (Nat × Nat)) (u v : Nat)
    (haddr : a.eval p = .pointer (some ⟨r, o', none⟩)) (hoff : o' = i * 2) (hx : a.eval x = .agg #[.int .u32 (u : Int), .int .u32 (v : Int)]) (HO : KR W base (.slice (some ⟨r, 0, none⟩) n c) ll) (hi : i < n) (HB : Below base w0 W)
    (h : ∀ w1, KR w1 base (.slice (some ⟨r, 0, none⟩) n c) (ll.set i (u, v)) → Below base w0 w1 → W.grownBy w1 (some r) → wpList P ops Q rest a w1) : wpList P ops Q (o :: rest) a W := by
 obtain ⟨cc, h1, h2, h3, _⟩ := Kd.R_elem HO (kI (0, 0)) (i : Int) (by omega) (by omega)
 refine Kd.R_store k43 base hN hgd 43 p x ho 43 (i : Int) 0 (ll.map kI) (kI (u, v)) _ [.int .u32 (u : Int), .int .u32 (v : Int)] cc (fun _ => True) (fun _ => False) haddr (by rw [hoff]; rfl) hx rfl ht (by simp [Value.oneCell']) HO (by omega) (by omega) h1 h3 (Nat.le_refl _) ?_ (fun _ h => h.elim) HB ?_
 ·have e : cc.drop (0 + [Value.int .u32 (u : Int), .int .u32 (v : Int)].length) = [] := List.drop_eq_nil_of_le (by rw [h1]; exact Nat.le_refl _)
  rw [e, List.take_zero, List.nil_append, List.append_nil]
  exact k43_mkM W base (fun _ => False) (kI (u, v))
 ·intro w1 hR hB hg
  refine h w1 ?_ hB hg
  unfold KR
  rw [List.map_set]
  exact hR
end
set_option maxHeartbeats 8000000 in
theorem makes_ok (A : Option Addr) (c : Nat) (l : List (Nat × Nat)) (hl : kok l) (h64 : l.length < 1000) (hc : l.length ≤ c) (h0 : chk l = 0) (w : World) (hK : Kn w A l) :
    Calls Try.prog 11 #[.slice A l.length c] w fun e w' => ∃ g B cb, e = .returned (.tuple #[.pointer (some ⟨g, 0, none⟩), .bool true, .bool true]) ∧ NewC w' w.heap.size g B cb l ∧ Below w.heap.size w w' := by
 have HNEW : Aside0 (∀ A c w, Kn w A l → l.length ≤ c → Calls Try.prog 31 #[.slice A l.length c] w fun e w' => ∃ g B cb, e = .returned (.tuple #[.pointer (some ⟨g, 0, none⟩), .int .i64 0]) ∧ NewC w' w.heap.size g B cb l ∧ Below w.heap.size w w') := ⟨fun A c w h1 h2 => New_ok hl h64 h2 h0 w h1⟩
 have HSAME : Aside0 (∀ B d w, Kn w B l → l.length ≤ d → Kn w A l → Calls Try.prog 16 #[.slice B l.length d, .slice A l.length c] w fun e w' => e = .returned (.bool true) ∧ Drawn0 w w') := ⟨fun B d w h1 h2 h3 => by
  have := same_calls l l h64 h64 B A d c h2 hc w h1 h3
  rwa [decide_eq_true rfl] at this⟩
 obtain ⟨ek, hek⟩ : ∃ k, chk l = k := ⟨_, rfl⟩
 have HCHK : Aside0 (∀ w, Kn w A l → Calls Try.prog 30 #[.slice A l.length c] w fun e w' => e = .returned (.int .i64 (ek : Int)) ∧ Drawn0 w w') := ⟨fun w h => by rw [← hek]; exact rCheck_calls l hl h64 A c hc w h⟩
 rw [hek] at h0
 have HKW : Aside0 (∀ w', Below w.heap.size w w' → Kn w' A l) := ⟨fun w' hb => hK.below hb⟩
 have HK0 : Aside0 (k43.C w A l.length (l.map kI)) := ⟨hK⟩
 have KN2 : ∀ {W : World} {b n c : Nat} {B : Option Addr}, KR W b (.slice B n c) l → Kn W B l := fun h => h.kn.2.2
 have KC2 : ∀ {W : World} {b n c : Nat} {B : Option Addr}, KR W b (.slice B n c) l → l.length ≤ c := fun h => by have := h.kn; omega
 obtain ⟨n, hn⟩ : ∃ n, l.length = n := ⟨_, rfl⟩
 have HN := Aside0.mk hn
 rw [hn] at HNEW HSAME HCHK HK0 h64 ⊢
 have HK := HK0
 have HLE : Aside0 ((([] : List S43).length + n) * 8 ≤ 140737488355328) := ⟨by simp only [List.length_nil]; omega⟩
 have H6 := Aside0.mk h64
 subst h0
 have t1 : ((0 : Int) != ((0 : Nat) : Int)) = false := by decide
 have t2 : decide ((0 : Int) = ((0 : Nat) : Int)) = true := by decide
 clear hl h64 hc hK hn HK0 hek
 go_enter Try.func11, Try.ntmps11
 go_wp2_with (first | ((with_reducible refine gate_dst (N := 10) rfl ?_); refine Kd.R_append_rows k43 (W := w) (Rr := k43.K w) (w0 := w) w.heap.size rfl (.const (.slice none 0 0)) (.tmp 9) 23 43 (.agg #[.int .u32 0, .int .u32 0]) 8 rfl Try.underlying23 info43 rfl (by decide) (by decide) (.slice none 0 0) [] (l.map kI) A n c (fun _ => True) (fun _ => False) rfl rfl (KR.nil w _) HK.out (fun x cs h => k43_any _ _ _ _ _ _ h) (fun _ h => h.elim) (fun _ _ => trivial) (Below.refl _ _) (Nat.le_refl _) HLE.out ?_; intro v1 w1 hR hB hg hat; rw [List.nil_append] at hR; have R1 : Aside0 (KR w1 w.heap.size v1 l) := ⟨hR⟩; have B1 := Aside0.mk hB; obtain ⟨A1, n1, c1, rfl, hn1⟩ := R1.out.as; obtain rfl : n = n1 := (hn1.trans HN.out).symm; clear hR hB hg hat hn1) | (have R1K : Aside0 (Kn w1 A1 l) := ⟨KN2 R1.out⟩; have R1C : Aside0 (n ≤ c1) := ⟨by have := KC2 R1.out; have := HN.out; omega⟩; (go_at_call 31; (with_reducible refine (HNEW.out A1 c1 w1 R1K.out R1C.out).mono ?_); rintro e w2 ⟨g, B, cb, rfl, hC, hb⟩; have C2 := Aside0.mk hC; have B2 := Aside0.mk hb; have R2 : Aside0 (KR w2 w.heap.size (.slice A1 n c1) l) := ⟨R1.out.below hb⟩; clear hC hb)) | (go_at_call 16; (with_reducible refine (HSAME.out A1 c1 w2 (KN2 R2.out) (by have := KC2 R2.out; have := HN.out; omega) (HKW.out w2 (below_step B1.out B2.out))).mono ?_); rintro e w3 ⟨rfl, hd⟩; have B3 := Aside0.mk (below_step B2.out hd.below); have R3 : Aside0 (KR w3 w.heap.size (.slice A1 n c1) l) := ⟨R2.out.below hd.below⟩; have C3 : Aside0 (NewC w3 w1.heap.size g B cb l) := ⟨C2.out.below hd.below⟩; clear hd) | (go_at_call 30; (with_reducible refine (HCHK.out w3 (HKW.out w3 (below_step B1.out B3.out))).mono ?_); rintro e w4 ⟨rfl, hd⟩; have B4 := Aside0.mk (below_step B3.out hd.below); have R4 : Aside0 (KR w4 w.heap.size (.slice A1 n c1) l) := ⟨R3.out.below hd.below⟩; have C4 : Aside0 (NewC w4 w1.heap.size g B cb l) := ⟨C3.out.below hd.below⟩; clear hd))
 have HRB : Aside0 (∀ r, A1 = some ⟨r, 0, none⟩ → r < w1.heap.size) := ⟨fun r e => Kd.R_lt R1.out r (by rw [e]; rfl)⟩
 have S14 : Aside0 (w1.heap.size ≤ w4.heap.size) := ⟨B4.out.size⟩
 go_loopg [8] n (fun kx s8 wr => ∃ (i : Nat) (ll : List (Nat × Nat)), s8 = .int .i64 (i : Int) ∧ i ≤ n ∧ n - i ≤ kx ∧ Aside0 (KR wr w.heap.size (.slice A1 n c1) ll) ∧ Aside0 (Below w.heap.size w wr) ∧ Aside0 (w4.heap.size ≤ wr.heap.size ∧ ∀ k, w1.heap.size ≤ k → k < w4.heap.size → wr.heap[k]? = w4.heap[k]?))
 case atStart => exact ⟨0, l, rfl, Nat.zero_le _, by omega, R4, ⟨below_step B1.out B4.out⟩, ⟨Nat.le_refl _, fun _ _ _ => rfl⟩⟩
 case round =>
  obtain ⟨i, ll, rfl, i1, i2, HR, HB, HT⟩ := hrel
  have h6 := H6.out
  by_cases hin : i < n
  ·have HIN := Aside0.mk hin
   have e1i : decide ((0 : Int) ≤ (i : Int)) = true := decide_eq_true (by omega)
   have e2i : decide ((i : Int) < (n : Int)) = true := decide_eq_true (by omega)
   have e5i : ((0 : Int) ≤ (i : Int)) = True := eq_true (by omega)
   have e6i : ((i : Int) < (n : Int)) = True := eq_true (by omega)
   have e7i : (i < n) = True := eq_true (by omega)
   have wi : IntKind.i64.wrap ((i : Int) + 1) = ((i + 1 : Nat) : Int) := by rw [show IntKind.i64.wrap ((i : Int) + 1) = wrap64 ((i : Int) + 1) from i64_w _, w64 (by omega) (by omega)]; omega
   obtain ⟨r, rfl, hr1, hr2⟩ := HR.out.block (by omega)
   have HRR : Aside0 (r < w1.heap.size) := ⟨HRB.out r rfl⟩
   clear h6 hin hr1 hr2
   go_wp2_with ((with_reducible refine gate_store (p := 42) rfl ?_); refine put43 (w0 := w) w.heap.size rfl rfl (.tmp 42) (.tmp 41) rfl size43 i ll 1 1 rfl (by simp) rfl HR.out HIN.out HB.out ?_; intro w9 hR hB hg; have R9 := Aside0.mk hR; have B9 := Aside0.mk hB; have G9 := Aside0.mk hg; clear hR hB hg)
   go_roundg (n - (i + 1))
   case measure => have := HIN.out; omega
   case rel => exact ⟨i + 1, _, by first | rfl | (congr 1; omega), HIN.out, by omega, R9, B9, ⟨Nat.le_trans HT.out.1 G9.out.size, fun k h1 h2 => (G9.out.block k (by have := HT.out.1; omega) (fun e => by injection e with e; have := HRR.out; omega)).trans (HT.out.2 k h1 h2)⟩⟩
  ·obtain rfl : i = n := by omega
   have dd : decide ((i : Int) < (i : Int)) = false := decide_eq_false (by omega)
   clear h6 hin
   go_wp2
   go_ret3
   exact ⟨g, B, cb, rfl, (⟨Nat.le_trans B1.out.size ((C4.out.move HT.out.2).1), ((C4.out.move HT.out.2).2.1), Kd.R_lower (C4.out.move HT.out.2).2.2 B1.out.size⟩ : NewC _ _ _ _ _ _), HB.out⟩
set_option maxHeartbeats 8000000 in
theorem makes_bad (A : Option Addr) (c : Nat) (l : List (Nat × Nat)) (hl : kok l) (h64 : l.length < 1000) (hc : l.length ≤ c) (h0 : chk l ≠ 0) (w : World) (hK : Kn w A l) :
    Calls Try.prog 11 #[.slice A l.length c] w fun e w' => e = .returned (.tuple #[.pointer none, .bool false, .bool true]) ∧ Below w.heap.size w w' := by
 have HNEW : Aside0 (∀ A c w, Kn w A l → l.length ≤ c → Calls Try.prog 31 #[.slice A l.length c] w fun e w' => e = .returned (.tuple #[.pointer none, .int .i64 ((chk l : Nat) : Int)]) ∧ Below w.heap.size w w') := ⟨fun A c w h1 h2 => New_bad hl h64 h2 h0 w h1⟩
 have HSAME : Aside0 (∀ B d w, Kn w B l → l.length ≤ d → Kn w A l → Calls Try.prog 16 #[.slice B l.length d, .slice A l.length c] w fun e w' => e = .returned (.bool true) ∧ Drawn0 w w') := ⟨fun B d w h1 h2 h3 => by
  have := same_calls l l h64 h64 B A d c h2 hc w h1 h3
  rwa [decide_eq_true rfl] at this⟩
 obtain ⟨ek, hek⟩ : ∃ k, chk l = k := ⟨_, rfl⟩
 have HCHK : Aside0 (∀ w, Kn w A l → Calls Try.prog 30 #[.slice A l.length c] w fun e w' => e = .returned (.int .i64 (ek : Int)) ∧ Drawn0 w w') := ⟨fun w h => by rw [← hek]; exact rCheck_calls l hl h64 A c hc w h⟩
 rw [hek] at h0 HNEW
 have HKW : Aside0 (∀ w', Below w.heap.size w w' → Kn w' A l) := ⟨fun w' hb => hK.below hb⟩
 have HK0 : Aside0 (k43.C w A l.length (l.map kI)) := ⟨hK⟩
 have KN2 : ∀ {W : World} {b n c : Nat} {B : Option Addr}, KR W b (.slice B n c) l → Kn W B l := fun h => h.kn.2.2
 have KC2 : ∀ {W : World} {b n c : Nat} {B : Option Addr}, KR W b (.slice B n c) l → l.length ≤ c := fun h => by have := h.kn; omega
 obtain ⟨n, hn⟩ : ∃ n, l.length = n := ⟨_, rfl⟩
 have HN := Aside0.mk hn
 rw [hn] at HNEW HSAME HCHK HK0 h64 ⊢
 have HK := HK0
 have HLE : Aside0 ((([] : List S43).length + n) * 8 ≤ 140737488355328) := ⟨by simp only [List.length_nil]; omega⟩
 have H6 := Aside0.mk h64
 have t1 : ((ek : Int) != (ek : Int)) = false := by rw [bne_eq_false_iff_eq]
 have t2 : ((ek : Int) == 0) = false := by rw [beq_eq_false_iff_ne]; omega
 have t3 : decide ((ek : Int) = 0) = false := decide_eq_false (by omega)
 have t4 : (ek = 0) = False := eq_false h0
 clear hl h64 hc hK hn HK0 h0 hek
 go_enter Try.func11, Try.ntmps11
 go_wp2_with (first | ((with_reducible refine gate_dst (N := 10) rfl ?_); refine Kd.R_append_rows k43 (W := w) (Rr := k43.K w) (w0 := w) w.heap.size rfl (.const (.slice none 0 0)) (.tmp 9) 23 43 (.agg #[.int .u32 0, .int .u32 0]) 8 rfl Try.underlying23 info43 rfl (by decide) (by decide) (.slice none 0 0) [] (l.map kI) A n c (fun _ => True) (fun _ => False) rfl rfl (KR.nil w _) HK.out (fun x cs h => k43_any _ _ _ _ _ _ h) (fun _ h => h.elim) (fun _ _ => trivial) (Below.refl _ _) (Nat.le_refl _) HLE.out ?_; intro v1 w1 hR hB hg hat; rw [List.nil_append] at hR; have R1 : Aside0 (KR w1 w.heap.size v1 l) := ⟨hR⟩; have B1 := Aside0.mk hB; obtain ⟨A1, n1, c1, rfl, hn1⟩ := R1.out.as; obtain rfl : n = n1 := (hn1.trans HN.out).symm; clear hR hB hg hat hn1) | (have R1K : Aside0 (Kn w1 A1 l) := ⟨KN2 R1.out⟩; have R1C : Aside0 (n ≤ c1) := ⟨by have := KC2 R1.out; have := HN.out; omega⟩; (go_at_call 31; (with_reducible refine (HNEW.out A1 c1 w1 R1K.out R1C.out).mono ?_); rintro e w2 ⟨rfl, hb⟩; have B2 := Aside0.mk hb; have R2 : Aside0 (KR w2 w.heap.size (.slice A1 n c1) l) := ⟨R1.out.below hb⟩; clear hb)) | (go_at_call 16; (with_reducible refine (HSAME.out A1 c1 w2 (KN2 R2.out) (by have := KC2 R2.out; have := HN.out; omega) (HKW.out w2 (below_step B1.out B2.out))).mono ?_); rintro e w3 ⟨rfl, hd⟩; have B3 := Aside0.mk (below_step B2.out hd.below); have R3 : Aside0 (KR w3 w.heap.size (.slice A1 n c1) l) := ⟨R2.out.below hd.below⟩; clear hd) | (go_at_call 30; (with_reducible refine (HCHK.out w3 (HKW.out w3 (below_step B1.out B3.out))).mono ?_); rintro e w4 ⟨rfl, hd⟩; have B4 := Aside0.mk (below_step B3.out hd.below); have R4 : Aside0 (KR w4 w.heap.size (.slice A1 n c1) l) := ⟨R3.out.below hd.below⟩; clear hd))
 have HRB : Aside0 (∀ r, A1 = some ⟨r, 0, none⟩ → r < w1.heap.size) := ⟨fun r e => Kd.R_lt R1.out r (by rw [e]; rfl)⟩
 have S14 : Aside0 (w1.heap.size ≤ w4.heap.size) := ⟨B4.out.size⟩
 go_loopg [8] n (fun kx s8 wr => ∃ (i : Nat) (ll : List (Nat × Nat)), s8 = .int .i64 (i : Int) ∧ i ≤ n ∧ n - i ≤ kx ∧ Aside0 (KR wr w.heap.size (.slice A1 n c1) ll) ∧ Aside0 (Below w.heap.size w wr) ∧ Aside0 (w4.heap.size ≤ wr.heap.size ∧ ∀ k, w1.heap.size ≤ k → k < w4.heap.size → wr.heap[k]? = w4.heap[k]?))
 case atStart => exact ⟨0, l, rfl, Nat.zero_le _, by omega, R4, ⟨below_step B1.out B4.out⟩, ⟨Nat.le_refl _, fun _ _ _ => rfl⟩⟩
 case round =>
  obtain ⟨i, ll, rfl, i1, i2, HR, HB, HT⟩ := hrel
  have h6 := H6.out
  by_cases hin : i < n
  ·have HIN := Aside0.mk hin
   have e1i : decide ((0 : Int) ≤ (i : Int)) = true := decide_eq_true (by omega)
   have e2i : decide ((i : Int) < (n : Int)) = true := decide_eq_true (by omega)
   have e5i : ((0 : Int) ≤ (i : Int)) = True := eq_true (by omega)
   have e6i : ((i : Int) < (n : Int)) = True := eq_true (by omega)
   have e7i : (i < n) = True := eq_true (by omega)
   have wi : IntKind.i64.wrap ((i : Int) + 1) = ((i + 1 : Nat) : Int) := by rw [show IntKind.i64.wrap ((i : Int) + 1) = wrap64 ((i : Int) + 1) from i64_w _, w64 (by omega) (by omega)]; omega
   obtain ⟨r, rfl, hr1, hr2⟩ := HR.out.block (by omega)
   have HRR : Aside0 (r < w1.heap.size) := ⟨HRB.out r rfl⟩
   clear h6 hin hr1 hr2
   go_wp2_with ((with_reducible refine gate_store (p := 42) rfl ?_); refine put43 (w0 := w) w.heap.size rfl rfl (.tmp 42) (.tmp 41) rfl size43 i ll 1 1 rfl (by simp) rfl HR.out HIN.out HB.out ?_; intro w9 hR hB hg; have R9 := Aside0.mk hR; have B9 := Aside0.mk hB; have G9 := Aside0.mk hg; clear hR hB hg)
   go_roundg (n - (i + 1))
   case measure => have := HIN.out; omega
   case rel => exact ⟨i + 1, _, by first | rfl | (congr 1; omega), HIN.out, by omega, R9, B9, ⟨Nat.le_trans HT.out.1 G9.out.size, fun k h1 h2 => (G9.out.block k (by have := HT.out.1; omega) (fun e => by injection e with e; have := HRR.out; omega)).trans (HT.out.2 k h1 h2)⟩⟩
  ·obtain rfl : i = n := by omega
   have dd : decide ((i : Int) < (i : Int)) = false := decide_eq_false (by omega)
   clear h6 hin
   go_wp2
   go_ret3
   exact ⟨rfl, HB.out⟩
end Go.Proofs.Ytkicfaboibfbpaa.A
end
section
set_option linter.unusedVariables false
set_option linter.unusedSimpArgs false
namespace Go.Proofs.Ytkicfaboibfbpaa.A
open Go.RowKit Go.Proofs.YtkicfaboibfbpaaW.PrintWords Go.Proofs.YtkicfaboibfbpaaW.PrintLast Go.Proofs.YtkicfaboibfbpaaW.PrintMore Go.Proofs.Ytkicfaboibfbpaa.PCurveAts
theorem eqA32 (d : Nat) (w : World) (x0 y0 x1 y1 : Int) (x2 y2 : Bool) :
    (Op.equalIn (d + 2) 32 (.agg #[.int .u32 x0, .int .u32 x1, .bool x2]) (.agg #[.int .u32 y0, .int .u32 y1, .bool y2])).run Try.prog w = .ok (x0 == y0 && (x1 == y1 && (x2 == y2))) w := by
 refine eqA_of Try.underlying32 (by kernel_rfl) ?_
 refine eqf_cons (by rfl) (by go_simp; rfl) (by go_simp; rfl) (by go_simp) ?_
 refine eqf_cons (by rfl) (by go_simp; rfl) (by go_simp; rfl) (by go_simp) ?_
 exact eqf_last (by rfl) (by go_simp; rfl) (by go_simp; rfl) (by go_simp)
theorem pf_eq (p q : Pf) : ((p.X : Int) == (q.X : Int) && ((p.B : Int) == (q.B : Int) && (p.H == q.H))) = decide (p = q) := by
 obtain ⟨a, b, c⟩ := p
 obtain ⟨d, e, f⟩ := q
 rw [Bool.eq_iff_iff]
 simp only [Bool.and_eq_true, beq_iff_eq, decide_eq_true_iff, Pf.mk.injEq]
 constructor
 ·rintro ⟨h1, h2, h3⟩; exact ⟨by omega, by omega, h3⟩
 ·rintro ⟨h1, h2, h3⟩; exact ⟨by omega, by omega, h3⟩
theorem eql32 (p q : Pf) (w : World) : (binOp .eql 32 (.agg #[.int .u32 (p.X : Int), .int .u32 (p.B : Int), .bool p.H]) (.agg #[.int .u32 (q.X : Int), .int .u32 (q.B : Int), .bool q.H])).run Try.prog w = .ok (.bool (decide (p = q))) w := by
 rw [run_eql_struct, eqA32 9998, Result.andThen_ok, pf_eq]
theorem neq32 (p q : Pf) (w : World) : (binOp .neq 32 (.agg #[.int .u32 (p.X : Int), .int .u32 (p.B : Int), .bool p.H]) (.agg #[.int .u32 (q.X : Int), .int .u32 (q.B : Int), .bool q.H])).run Try.prog w = .ok (.bool (!decide (p = q))) w := by
 have e := eqA32 9998 w p.X q.X p.B q.B p.H q.H
 go_simp
 rw [← pf_eq, Bool.not_and, Bool.not_and]
/-- the chapter's curve -/
def mk : List (Nat × Nat) := [(0, 0), (1065353216, 1056964608), (1073741824, 1082130432)]
theorem mk0 : chk mk = 0 := by decide +kernel
theorem mk1 : atP mk 1056964608 = 1048576000 := by decide +kernel
theorem mk2 : atP mk 1069547520 = 1074790400 := by decide +kernel
theorem mk3 : atP mk 3212836864 = 0 := by decide +kernel
theorem mk4 : atP mk 2139095041 = 2143289344 := by decide +kernel
theorem mk5 : ckP (atP mk) 0 1073741824 1048576000 ⟨1056964608, 1056964607, true⟩ = true := by decide +kernel
theorem mk6 : noY (atP mk) 1073741824 1048576000 = false := by decide +kernel
theorem mk7 : noY (atP mk) 1073741824 1084227584 = true := by decide +kernel
theorem mk_ok : kok mk := by intro k hk; simp [mk] at hk; rcases hk with rfl | rfl | rfl <;> decide
theorem mkV : Val mk := chk_val mk_ok mk0
theorem mkL : lst (atP mk) (lo0 mk) (hi0 mk) 1048576000 = ⟨1056964608, 1056964607, true⟩ := by
 have e := ends_ok mkV
 have h := check_lst (ris_at mkV) e.1 e.2.1 e.2.2.1 e.2.2.2.1 e.2.2.2.2 (y := 1048576000) (by decide) ⟨1056964608, 1056964607, true⟩ (by decide)
 have h2 : ckP (atP mk) (lo0 mk) (hi0 mk) 1048576000 ⟨1056964608, 1056964607, true⟩ = true := mk5
 have h3 : noY (atP mk) (hi0 mk) 1048576000 = false := mk6
 rw [h2, h3, Bool.not_false, Bool.true_and] at h
 exact (of_decide_eq_true h.symm).symm
theorem mk_new {w : World} {g : Nat} (h : w.heap[g]? = some (.cells #[.int .u32 0, .int .u32 0, .int .u32 1065353216, .int .u32 1056964608, .int .u32 1073741824, .int .u32 1082130432] 43 (0, 0))) : Kn w (some ⟨g, 0, none⟩) mk := by
 refine ⟨rfl, by decide, fun _ => ⟨_, rfl, fun j p hj => ?_⟩⟩
 have c0 := (blk_cell h 0).trans rfl
 have c1 := (blk_cell h 1).trans rfl
 have c2 := (blk_cell h 2).trans rfl
 have c3 := (blk_cell h 3).trans rfl
 have c4 := (blk_cell h 4).trans rfl
 have c5 := (blk_cell h 5).trans rfl
 match j, hj with
 | 0, hj => obtain rfl := Option.some.inj hj; exact ⟨_, rfl, k43.K_of_M (k43_mkM w 0 (fun _ => True) _), fun i u hu => by
     match i, hu with
     | 0, hu => obtain rfl := Option.some.inj hu; exact c0
     | 1, hu => obtain rfl := Option.some.inj hu; exact c1⟩
 | 1, hj => obtain rfl := Option.some.inj hj; exact ⟨_, rfl, k43.K_of_M (k43_mkM w 0 (fun _ => True) _), fun i u hu => by
     match i, hu with
     | 0, hu => obtain rfl := Option.some.inj hu; exact c2
     | 1, hu => obtain rfl := Option.some.inj hu; exact c3⟩
 | 2, hj => obtain rfl := Option.some.inj hj; exact ⟨_, rfl, k43.K_of_M (k43_mkM w 0 (fun _ => True) _), fun i u hu => by
     match i, hu with
     | 0, hu => obtain rfl := Option.some.inj hu; exact c4
     | 1, hu => obtain rfl := Option.some.inj hu; exact c5⟩
set_option maxHeartbeats 2000000 in
theorem made_calls (w : World) : Calls Try.prog 36 #[] w fun e w' => ∃ g B cb, e = .returned (.pointer (some ⟨g, 0, none⟩)) ∧ CvB w' g B cb mk ∧ Below w.heap.size w w' := by
 have HN : Aside0 (∀ W A c, Kn W A mk → 3 ≤ c → Calls Try.prog 31 #[.slice A 3 c] W fun e w' => ∃ g B cb, e = .returned (.tuple #[.pointer (some ⟨g, 0, none⟩), .int .i64 0]) ∧ NewC w' W.heap.size g B cb mk ∧ Below W.heap.size W w') := ⟨fun W A c h hc => New_ok mk_ok (by decide) hc mk0 W h⟩
 have HK : Aside0 (Kn (w.alloc (.cells #[.int .u32 0, .int .u32 0, .int .u32 1065353216, .int .u32 1056964608, .int .u32 1073741824, .int .u32 1082130432] 43 (0, 0))) (some ⟨w.heap.size, 0, none⟩) mk) := ⟨mk_new (blk_new w _)⟩
 have HB : Aside0 (Below w.heap.size w (w.alloc (.cells #[.int .u32 0, .int .u32 0, .int .u32 1065353216, .int .u32 1056964608, .int .u32 1073741824, .int .u32 1082130432] 43 (0, 0)))) := ⟨below_alloc (Below.refl _ _) _⟩
 go_enter Try.func36, Try.ntmps36
 go_wp2_with ((go_at_call 31; (with_reducible refine (HN.out _ _ _ HK.out (Nat.le_refl _)).mono ?_); rintro e w1 ⟨g, B, cb, rfl, hC, hb⟩; have C1 := Aside0.mk hC; have B1 := Aside0.mk (below_step HB.out hb); clear hC hb))
 go_ret
 exact ⟨g, B, cb, rfl, C1.out.2.1, B1.out⟩
section
variable {ops : Array Oper} {Q : Exit → Act → World → Prop} {o : Oper} {rest : List Oper} {a : Act}
/-- a proof is loaded out of its box, guarded or not -/
theorem loadg32 {W : World} {p : Operand} (ho : o.op = .load 32 p) (hw : Region.wanted o (yielded ops a.tmps) = true) (g : Nat) (x y z : Value) (hp : a.eval p = .pointer (some ⟨g, 0, none⟩)) (hg : W.heap[g]? = some (.cells #[x, y, z] 32 (0, 0)))
    (h : wpList Try.prog ops Q rest (a.put o.dst (.agg #[x, y, z])) W) : wpList Try.prog ops Q (o :: rest) a W := by
 refine wpList_step fun K hK => ?_
 rw [if_pos hw]
 unfold Oper.wp
 rw [load32 ho hp hg]
 exact hK _ _ h
end
set_option maxHeartbeats 8000000 in
set_option maxRecDepth 100000 in
theorem known_calls (w : World) : Calls Try.prog 10 #[] w fun e w' => e = .returned (.bool true) ∧ Below w.heap.size w w' := by
 have HA0 : Aside0 (∀ W g B cb, CvB W g B cb mk → Calls Try.prog 17 #[.pointer (some ⟨g, 0, none⟩), .int .u32 1056964608] W fun e w' => e = .returned (.int .u32 1048576000) ∧ Below W.heap.size W w') := ⟨fun W g B cb h => by
  have := At_calls g B cb mk mkV 1056964608 (by decide) W h
  rw [mk1] at this
  exact this⟩
 have HA1 : Aside0 (∀ W g B cb, CvB W g B cb mk → Calls Try.prog 17 #[.pointer (some ⟨g, 0, none⟩), .int .u32 1069547520] W fun e w' => e = .returned (.int .u32 1074790400) ∧ Below W.heap.size W w') := ⟨fun W g B cb h => by
  have := At_calls g B cb mk mkV 1069547520 (by decide) W h
  rw [mk2] at this
  exact this⟩
 have HA2 : Aside0 (∀ W g B cb, CvB W g B cb mk → Calls Try.prog 17 #[.pointer (some ⟨g, 0, none⟩), .int .u32 3212836864] W fun e w' => e = .returned (.int .u32 0) ∧ Below W.heap.size W w') := ⟨fun W g B cb h => by
  have := At_calls g B cb mk mkV 3212836864 (by decide) W h
  rw [mk3] at this
  exact this⟩
 have HA3 : Aside0 (∀ W g B cb, CvB W g B cb mk → Calls Try.prog 17 #[.pointer (some ⟨g, 0, none⟩), .int .u32 2139095041] W fun e w' => e = .returned (.int .u32 2143289344) ∧ Below W.heap.size W w') := ⟨fun W g B cb h => by
  have := At_calls g B cb mk mkV 2139095041 (by decide) W h
  rw [mk4] at this
  exact this⟩
 have HL0 : Aside0 (∀ W g B cb, CvB W g B cb mk → Calls Try.prog 13 #[.pointer (some ⟨g, 0, none⟩), .int .u32 1048576000] W fun e w' => e = .returned (.tuple #[.agg #[.int .u32 1056964608, .int .u32 1056964607, .bool true], .int .i64 0]) ∧ Below W.heap.size W w') := ⟨fun W g B cb h => by
  have := Leastc_calls g B cb mk mkV W h 1048576000 (by decide)
  rw [mkL] at this
  have e : lerr (atP mk) (hi0 mk) 1048576000 = 0 := by unfold lerr; rw [show noY (atP mk) (hi0 mk) 1048576000 = false from mk6]; rfl
  rw [e] at this
  exact this⟩
 have HL1 : Aside0 (∀ W g B cb, CvB W g B cb mk → Calls Try.prog 13 #[.pointer (some ⟨g, 0, none⟩), .int .u32 1084227584] W fun e w' => e = .returned (.tuple #[.agg #[.int .u32 0, .int .u32 0, .bool false], .int .i64 43]) ∧ Below W.heap.size W w') := ⟨fun W g B cb h => by
  have := Leastc_calls g B cb mk mkV W h 1084227584 (by decide)
  have hn : noY (atP mk) (hi0 mk) 1084227584 = true := mk7
  rw [lst_no hn] at this
  have e : lerr (atP mk) (hi0 mk) 1084227584 = 43 := by unfold lerr; rw [hn]; rfl
  rw [e] at this
  exact this⟩
 have HC0 : Aside0 (∀ W g B cb, CvB W g B cb mk → Calls Try.prog 14 #[.pointer (some ⟨g, 0, none⟩), .int .u32 1048576000, .agg #[.int .u32 1056964608, .int .u32 1056964607, .bool true]] W fun e w' => e = .returned (.bool true) ∧ Below W.heap.size W w') := ⟨fun W g B cb h => by
  have := Checkc_calls g B cb mk mkV W h 1048576000 1056964608 1056964607 true (by decide) (by decide)
  rw [show ckP (atP mk) (lo0 mk) (hi0 mk) 1048576000 ⟨1056964608, 1056964607, true⟩ = true from mk5] at this
  exact this⟩
 have q1 : ∀ w : World, (binOp .eql 32 (.agg #[.int .u32 1056964608, .int .u32 1056964607, .bool true]) (.agg #[.int .u32 1056964608, .int .u32 1056964607, .bool true])).run Try.prog w = .ok (.bool true) w := fun w => eql32 ⟨1056964608, 1056964607, true⟩ ⟨1056964608, 1056964607, true⟩ w
 go_enter Try.func10, Try.ntmps10
 go_wp2_with (first | (go_at_call 36; (with_reducible refine (made_calls _).mono ?_); rintro e w1 ⟨g, B, cb, rfl, hC, hb⟩; have C_1 := Aside0.mk hC; have B_1 := Aside0.mk hb; clear hC hb) | (go_at_call 17; (with_reducible refine (HA0.out _ g B cb C_1.out).mono ?_); rintro e w2 ⟨rfl, hb⟩; have B_2 := Aside0.mk (below_step B_1.out hb); have C_2 := Aside0.mk (CvB.below C_1.out hb); clear C_1; clear hb) | (go_at_call 17; (with_reducible refine (HA1.out _ g B cb C_2.out).mono ?_); rintro e w3 ⟨rfl, hb⟩; have B_3 := Aside0.mk (below_step B_2.out hb); have C_3 := Aside0.mk (CvB.below C_2.out hb); clear C_2; clear hb) | (go_at_call 17; (with_reducible refine (HA2.out _ g B cb C_3.out).mono ?_); rintro e w4 ⟨rfl, hb⟩; have B_4 := Aside0.mk (below_step B_3.out hb); have C_4 := Aside0.mk (CvB.below C_3.out hb); clear C_3; clear hb) | (go_at_call 17; (with_reducible refine (HA3.out _ g B cb C_4.out).mono ?_); rintro e w5 ⟨rfl, hb⟩; have B_5 := Aside0.mk (below_step B_4.out hb); have C_5 := Aside0.mk (CvB.below C_4.out hb); clear C_4; clear hb) | (go_at_call 13; (with_reducible refine (HL0.out _ g B cb C_5.out).mono ?_); rintro e w6 ⟨rfl, hb⟩; have B_6 := Aside0.mk (below_step B_5.out hb); have C_6 := Aside0.mk (CvB.below C_5.out hb); clear C_5; clear hb) | ((with_reducible refine gate_dst (N := 2) rfl ?_); refine box_event ?hg (N := 2) ?hd (cs := #[.int .u32 0, .int .u32 0, .bool false]) (t := 32) ?hr ?_; (case hd => rfl); (case hg => rfl); (case hr => first | (go_simp; done) | (go_simp; rfl)); intro gp hg_ w7 hm_ hb_; have P_0 := Aside0.mk (C_6.out); have P_B := Aside0.mk (hb_); have P_G := Aside0.mk (show w6.heap.size ≤ gp by rw [hg_]; exact Nat.le_refl _); have GP := Aside0.mk (show w.heap.size ≤ gp by rw [hg_]; exact B_6.out.size); have B_7 := Aside0.mk (below_step B_6.out hb_); have C_7 := Aside0.mk (CvB.below C_6.out hb_); clear C_6; have P_7 := Aside0.mk (hm_); clear hm_ hb_ hg_) | ((with_reducible refine gate_store (p := 2) rfl ?_); refine store_event rfl rfl rfl gp #[.int .u32 1056964608, .int .u32 1056964607, .bool true] _ 32 rfl rfl P_7.out size32 rfl (by simp [Value.oneCell']) ?_; intro w8 hm_ hst_ hbl_; have B_8 := Aside0.mk (B_7.out.trans (hbl_ _ GP.out)); have P_8 := Aside0.mk (hm_); have C_8 := Aside0.mk (P_0.out.below ((P_B.out.trans (hbl_ _ P_G.out)))); clear P_7 C_7 hm_ hst_ hbl_) | (go_at_call 13; (with_reducible refine (HL1.out _ g B cb C_8.out).mono ?_); rintro e w9 ⟨rfl, hb⟩; have B_9 := Aside0.mk (below_step B_8.out hb); have P_9 := Aside0.mk (blk_below P_8.out hb); have C_9 := Aside0.mk (CvB.below C_8.out hb); clear P_8 C_8; clear hb) | ((with_reducible refine gate_dst (N := 4) rfl ?_); refine box_event ?hg (N := 4) ?hd (cs := #[.int .u32 0, .int .u32 0, .bool false]) (t := 32) ?hr ?_; (case hd => rfl); (case hg => rfl); (case hr => first | (go_simp; done) | (go_simp; rfl)); intro go_ hg_ w10 hm_ hb_; have O_0 := Aside0.mk (C_9.out); have O_B := Aside0.mk (hb_); have O_G := Aside0.mk (show w9.heap.size ≤ go_ by rw [hg_]; exact Nat.le_refl _); have NEPO := Aside0.mk (show gp ≠ go_ by rw [hg_]; have := blk_lt P_9.out; omega); have GO := Aside0.mk (show w.heap.size ≤ go_ by rw [hg_]; exact B_9.out.size); have B_10 := Aside0.mk (below_step B_9.out hb_); have P_10 := Aside0.mk (blk_below P_9.out hb_); have C_10 := Aside0.mk (CvB.below C_9.out hb_); clear P_9 C_9; have O_10 := Aside0.mk (hm_); clear hm_ hb_ hg_) | ((with_reducible refine gate_store (p := 4) rfl ?_); refine store_event rfl rfl rfl go_ #[.int .u32 0, .int .u32 0, .bool false] _ 32 rfl rfl O_10.out size32 rfl (by simp [Value.oneCell']) ?_; intro w11 hm_ hst_ hbl_; have B_11 := Aside0.mk (B_10.out.trans (hbl_ _ GO.out)); have P_11 := Aside0.mk ((hst_ gp NEPO.out).trans P_10.out); have O_11 := Aside0.mk (hm_); have C_11 := Aside0.mk (O_0.out.below ((O_B.out.trans (hbl_ _ O_G.out)))); clear P_10 O_10 C_10 hm_ hst_ hbl_) | ((with_reducible refine gate_dst (N := 42) rfl ?_); refine loadg32 rfl ?hw gp _ _ _ rfl P_11.out ?_; (case hw => rfl)) | ((with_reducible refine gate_dst (N := 48) rfl ?_); refine loadg32 rfl ?hw gp _ _ _ rfl P_11.out ?_; (case hw => rfl)) | (go_at_call 14; (with_reducible refine (HC0.out _ g B cb C_11.out).mono ?_); rintro e w12 ⟨rfl, hb⟩; have B_12 := Aside0.mk (below_step B_11.out hb); have P_12 := Aside0.mk (blk_below P_11.out hb); have O_12 := Aside0.mk (blk_below O_11.out hb); have C_12 := Aside0.mk (CvB.below C_11.out hb); clear P_11 O_11 C_11; clear hb))
 go_ret
 exact ⟨rfl, B_12.out⟩
end Go.Proofs.Ytkicfaboibfbpaa.A
end
section
set_option linter.unusedVariables false
set_option linter.unusedSimpArgs false
namespace Go.Proofs.Ytkicfaboibfbpaa.A
open Go.RowKit Go.Proofs.YtkicfaboibfbpaaW.PrintWords Go.Proofs.YtkicfaboibfbpaaW.PrintLast Go.Proofs.YtkicfaboibfbpaaW.PrintMore Go.Proofs.Ytkicfaboibfbpaa.PCurveAts
def nat (k : IntKind) : Kd Nat := Kd.scalar (fun x : Nat => Value.int k x) (fun _ => rfl)
/-- the element at a place (the walk's simp leaves it alone) -/
def gt (xs : List Nat) (i : Nat) : Nat := xs.getD i 0
set_option maxHeartbeats 1000000 in
set_option maxRecDepth 100000 in
theorem C_nat {k : IntKind} {w : World} {A : Option Addr} {n : Nat} {xs : List Nat} (h : (nat k).C w A n xs) (i : Nat) (hi : i < n) : ∃ ad, A = some ad ∧ w.cell? (ad.add i) = some (.int k (gt xs i)) := by
 obtain ⟨ad, c, hA, hl, hK, hc⟩ := Kd.C_get h 0 i (by omega) (by omega)
 refine ⟨ad, hA, ?_⟩
 have hK' : c = [.int k (gt xs i)] := hK
 have := hc 0 _ (by rw [hK']; rfl)
 simpa [nat, Kd.scalar] using this

theorem wf32 {a : Int} (h : (Lit.int .u32 a).wf = true) : ∃ n : Nat, a = n ∧ n < 4294967296 := by
 have : 0 ≤ a ∧ a < 4294967296 := by
  simp only [Lit.wf, Bool.and_eq_true, decide_eq_true_eq, show IntKind.u32.min = 0 from rfl, show IntKind.u32.max = 4294967295 from rfl] at h
  omega
 exact ⟨a.toNat, by omega, by omega⟩
theorem natRow {k : IntKind} {m : Nat} (hm0 : 0 < m) (hk : ∀ a, (Lit.int k a).wf = true → ∃ n : Nat, a = n ∧ n < m) {w : World} {a : Option Addr} {len cap : Nat} {zs : List Int} (h : (a = none ∧ len = 0 ∧ cap = 0 ∧ zs = []) ∨ ∃ x, a = some x ∧ len ≤ cap ∧ cap ≤ maxLen ∧ zs.length = cap ∧ (∀ i, i < zs.length → w.cell? (x.add i) = some (.int k (zs.getD i 0))) ∧ ∀ n ∈ zs, (Lit.int k n).wf = true) :
    ∃ xs : List Nat, len = xs.length ∧ (nat k).C w a xs.length xs ∧ xs.length ≤ cap ∧ ∀ i, gt xs i < m := by
 obtain ⟨l, rfl, hr, hm, hw, hc⟩ := ReadsInt.ofRowC h
 refine ⟨l.map Int.toNat, by simp, ?_, by simpa using hc, ?_⟩
 ·refine Kd.C_of_reads (d := 0) ⟨rfl, by simpa using hr.2.1, fun hp => ?_⟩
  obtain ⟨ad, e, hx⟩ := hr.2.2 (by simpa using hp)
  refine ⟨ad, e, fun j hj => ?_⟩
  have hj' : j < l.length := by simpa using hj
  obtain ⟨n, hn, _⟩ := hk (l.getD j 0) (hw _ (by rw [List.getD_eq_getElem?_getD, List.getElem?_eq_getElem hj']; exact List.getElem_mem hj'))
  rw [hx j hj', hn]
  rw [List.getD_eq_getElem?_getD, List.getElem?_eq_getElem hj'] at hn
  simp only [Option.getD_some] at hn
  simp [List.getElem?_eq_getElem hj', hn]
 ·intro i
  unfold gt
  rw [List.getD_eq_getElem?_getD, List.getElem?_map]
  by_cases hi : i < l.length
  ·obtain ⟨n, hn, hlt⟩ := hk l[i] (hw _ (List.getElem_mem hi))
   rw [List.getElem?_eq_getElem hi, hn]
   simpa using hlt
  ·rw [List.getElem?_eq_none (by omega)]; exact hm0
/-- a list of words in memory -/
def Ws (w : World) (A : Option Addr) (xs : List Nat) : Prop := (nat .u32).C w A xs.length xs
theorem Ws.below {w w' : World} {A : Option Addr} {xs : List Nat} (h : Ws w A xs) (hb : Below w.heap.size w w') : Ws w' A xs := Kd.C_below h hb
theorem Ws.at_ {w : World} {A : Option Addr} {xs : List Nat} (h : Ws w A xs) (i : Nat) (hi : i < xs.length) : ∃ ad, A = some ad ∧ w.cell? (ad.add i) = some (.int .u32 ((gt xs i : Nat) : Int)) := C_nat h i hi
end Go.Proofs.Ytkicfaboibfbpaa.A
end
section
-- PRINTED WORDS (module Derived/Print/Sized.lean): go-gate-2's, for the rows of laws over slices: an AI agent of Go's test side, Tue Nov 17 2026; no person has read it. Lean checks it.
namespace Go.Proofs.YtkicfaboibfbpaaW.PrintWords
open Go.ChangeShapes Go.WideShapes
/-- A row's slice of whole numbers is no longer than its weight allows. -/
theorem sized_ints {H : Type} {enc : TypeId × Value → H} {P : Program} {W : World} {base : Nat} {spare : Nat → Bool} {held : Bool} {t e : TypeId} {k : IntKind} {a : Option Addr} {len cap : Nat} {d : DataW H} {ps : List MemPlace} {ts : List TypeId} {ds : List (DataW H)} {j : Nat}
    (hsz : (DataW.weightsEach P ts ds).all (· ≤ reachBytes) = true) (ht : ts[j]? = some t) (hd : ds[j]? = some d) (hu : P.underlying t = some (.slice e)) (he : P.underlying e = some (.int k)) (hc : P.cellsOf e = 1) {B : Nat} (hB : P.bytesOf e = B)
    (h : DataW.Trod enc P W base spare held t (.slice a len cap) d ps) : len * B ≤ 140737488351232 := by
 obtain ⟨fuel, hf⟩ := h
 rcases open_ints hu he hc hf with ⟨hcs, _⟩ | ⟨x, l, c, zs, hcs, _, hl, _, hz, hx, _, _⟩
 ·simp [Value.cells] at hcs
  obtain ⟨rfl, rfl, rfl⟩ := hcs
  simp
 ·simp [Value.cells] at hcs
  obtain ⟨rfl, rfl, rfl⟩ := hcs
  obtain ⟨hx, _⟩ := Prod.mk.inj hx
  subst hx
  have z := sized_slice hsz ht hd hu
  rw [hB] at z
  have hl2 : len ≤ zs.length := by
   rw [hz]
   split
   ·exact hl
   ·exact Nat.le_refl _
  have h1 : (lits (H := H) k (zs.take len)).length + (lits (H := H) k (zs.drop len)).length = zs.length := by
   simp [lits]
   omega
  rw [h1] at z
  exact Nat.le_trans (Nat.mul_le_mul_right _ hl2) z
end Go.Proofs.YtkicfaboibfbpaaW.PrintWords
end
section
set_option linter.unusedVariables false
set_option linter.unusedSimpArgs false
namespace Go.Proofs.Ytkicfaboibfbpaa.A
open Go.RowKit Go.ChangeShapes Go.WideShapes Go.ChangeAt Go.Proofs.YtkicfaboibfbpaaW.PrintWords Go.Proofs.YtkicfaboibfbpaaW.PrintLast Go.Proofs.YtkicfaboibfbpaaW.PrintMore Go.Proofs.Ytkicfaboibfbpaa.PCurveAts
theorem list_choose {α : Type} {P : Nat → α → Prop} : ∀ (n : Nat), (∀ i, i < n → ∃ a, P i a) → ∃ l : List α, l.length = n ∧ ∀ i a, l[i]? = some a → P i a := by
 intro n
 induction n with
 | zero => intro _; exact ⟨[], rfl, fun i a h => by simp at h⟩
 | succ n ih =>
  intro h
  obtain ⟨l, hl, hp⟩ := ih (fun i hi => h i (by omega))
  obtain ⟨a, ha⟩ := h n (by omega)
  refine ⟨l ++ [a], by simp [hl], fun i b hb => ?_⟩
  by_cases hi : i < n
  ·rw [List.getElem?_append_left (by omega)] at hb; exact hp i b hb
  ·rw [List.getElem?_append_right (by omega)] at hb
   have : i - l.length = 0 := by
    have := (List.getElem?_eq_some_iff.1 hb).1
    simp at this; omega
   rw [this] at hb
   simp at hb
   subst hb
   rw [show i = n by omega]; exact ha
theorem cells30 : Try.prog.cellsOf 30 = 1 := by kernel_rfl
theorem cells4 : Try.prog.cellsOf 4 = 1 := by kernel_rfl
theorem cells43 : Try.prog.cellsOf 43 = 2 := by kernel_rfl
theorem cells32 : Try.prog.cellsOf 32 = 3 := by kernel_rfl
/-- proofs in memory -/
def Ps (w : World) (A : Option Addr) (ps : List Pf) : Prop := ∀ i, i < ps.length → ∃ ad, A = some ad ∧ w.cell? (ad.add (i * 3)) = some (.int .u32 ((ps.getD i ⟨0, 0, false⟩).X : Int)) ∧ w.cell? ⟨(ad.add (i * 3)).block, (ad.add (i * 3)).off + 1, none⟩ = some (.int .u32 ((ps.getD i ⟨0, 0, false⟩).B : Int)) ∧ w.cell? ⟨(ad.add (i * 3)).block, (ad.add (i * 3)).off + 2, none⟩ = some (.bool (ps.getD i ⟨0, 0, false⟩).H)
theorem Ps.below {w w' : World} {A : Option Addr} {ps : List Pf} (h : Ps w A ps) (hb : Below w.heap.size w w') : Ps w' A ps := fun i hi => by
 obtain ⟨ad, e, h1, h2, h3⟩ := h i hi
 exact ⟨ad, e, pw_cell_below hb h1, pw_cell_below hb h2, pw_cell_below hb h3⟩
section
variable {H : Type} {enc : TypeId × Value → H} {W : World}
theorem word_of_trod {fuel : Nat} {v : Value} {y : DataW H × List MemPlace} (h : DataW.trod enc Try.prog W 0 (fun _ => true) true fuel 30 [v] = some y) : ∃ n : Nat, v = .int .u32 (n : Int) ∧ n < 4294967296 := by
 obtain ⟨s, e0, rfl, hw⟩ := DataW.trod_int Try.underlying30 h
 injection e0 with e0 _
 obtain ⟨n, rfl, hn⟩ := wf32 hw
 exact ⟨n, e0, hn⟩
theorem knot_open {fuel : Nat} {cs : List Value} {y : DataW H × List MemPlace} (h : DataW.trod enc Try.prog W 0 (fun _ => true) true fuel 43 cs = some y) :
    ∃ k : Nat × Nat, cs = [.int .u32 (k.1 : Int), .int .u32 (k.2 : Int)] ∧ k.1 < 4294967296 ∧ k.2 < 4294967296 := by
 obtain ⟨y0, y1, n, rfl, hlen, h0, h1⟩ := trod_struct2 Try.underlying43 h
 simp only at h0 h1
 rw [cells30] at h0 h1
 have hc2 : cs.length = 2 := hlen.trans cells43
 obtain ⟨v0, v1, rfl⟩ : ∃ a b, cs = [a, b] := by
  match cs, hc2 with
  | [a, b], _ => exact ⟨a, b, rfl⟩
 have h0 : DataW.trod enc Try.prog W 0 (fun _ => true) true n 30 [v0] = some y0 := h0
 have h1 : DataW.trod enc Try.prog W 0 (fun _ => true) true n 30 [v1] = some y1 := h1
 obtain ⟨a, rfl, ha⟩ := word_of_trod h0
 obtain ⟨b, rfl, hb⟩ := word_of_trod h1
 exact ⟨(a, b), rfl, ha, hb⟩
theorem proof_open {fuel : Nat} {cs : List Value} {y : DataW H × List MemPlace} (h : DataW.trod enc Try.prog W 0 (fun _ => true) true fuel 32 cs = some y) :
    ∃ p : Pf, cs = [.int .u32 (p.X : Int), .int .u32 (p.B : Int), .bool p.H] ∧ p.X < 4294967296 ∧ p.B < 4294967296 := by
 obtain ⟨y0, y1, y2, n, rfl, hlen, h0, h1, h2⟩ := Go.Deep.trod_struct3 Try.underlying32 h
 simp only at h0 h1 h2
 rw [cells30] at h0 h1
 rw [cells4] at h2
 have hc3 : cs.length = 3 := hlen.trans cells32
 obtain ⟨v0, v1, v2, rfl⟩ : ∃ a b c, cs = [a, b, c] := by
  match cs, hc3 with
  | [a, b, c], _ => exact ⟨a, b, c, rfl⟩
 have h0 : DataW.trod enc Try.prog W 0 (fun _ => true) true n 30 [v0] = some y0 := h0
 have h1 : DataW.trod enc Try.prog W 0 (fun _ => true) true n 30 [v1] = some y1 := h1
 have h2 : DataW.trod enc Try.prog W 0 (fun _ => true) true n 4 [v2] = some y2 := h2
 obtain ⟨a, rfl, ha⟩ := word_of_trod h0
 obtain ⟨b, rfl, hb⟩ := word_of_trod h1
 obtain ⟨c, e, _⟩ := DataW.trod_bool Try.underlying4 h2
 injection e with e _
 subst e
 exact ⟨⟨a, b, c⟩, rfl, ha, hb⟩
theorem knots_open {fuel : Nat} {a : Option Addr} {len cap : Nat} {y : DataW H × List MemPlace} (h : DataW.trod enc Try.prog W 0 (fun _ => true) true fuel 23 [.slice a len cap] = some y) :
    ∃ l : List (Nat × Nat), l.length = len ∧ len ≤ cap ∧ Kn W a l ∧ kok l := by
 rcases Go.Deep.open_slice Try.underlying23 h with ⟨hcs, rfl⟩ | ⟨ad, len', cap', m, n, D, Pl, hcs, _, hl, hm, rfl, rfl, hel⟩
 ·injection hcs with hcs _
  injection hcs with e1 e2 e3
  subst e1 e2 e3
  exact ⟨[], rfl, Nat.le_refl _, ⟨rfl, by decide, fun h => absurd h (by decide)⟩, fun k hk => absurd hk (by simp)⟩
 injection hcs with hcs _
 injection hcs with e1 e2 e3
 subst e1 e2 e3
 obtain ⟨l, hll, hp⟩ := list_choose (α := Nat × Nat) (P := fun i k => ∃ cs' : List Value, W.cells? 0 (ad.add (i * 2)) 2 = some cs' ∧ cs' = [.int .u32 (k.1 : Int), .int .u32 (k.2 : Int)] ∧ k.1 < 4294967296 ∧ k.2 < 4294967296) len (fun i hi => by
  obtain ⟨cs', h1, h2⟩ := hel i (by show i < cap; omega)
  rw [cells43] at h1
  obtain ⟨k, h3, h4⟩ := knot_open h2
  exact ⟨k, cs', h1, h3, h4⟩)
 have hcap : cap ≤ 9223372036854775807 := hm
 subst hll
 refine ⟨l, rfl, hl, ⟨by rw [List.length_map], by omega, fun _ => ⟨ad, rfl, fun j p hj => ?_⟩⟩, fun k hk => ?_⟩
 ·rw [List.getElem?_map] at hj
  cases hlj : l[j]? with
  | none => rw [hlj] at hj; cases hj
  | some k =>
   rw [hlj] at hj
   obtain rfl := Option.some.inj hj
   obtain ⟨cs', h1, rfl, _⟩ := hp j k hlj
   have hc := (World.cells?_some h1).2.2
   refine ⟨_, rfl, k43.K_of_M (k43_mkM W 0 (fun _ => True) (kI k)), fun i u hu => ?_⟩
   match i, hu with
   | 0, hu => exact (hc 0 (by omega)).trans hu
   | 1, hu => exact ((congrArg W.cell? (Addr.add_add ad (j * 2) 1).symm).trans (hc 1 (by omega))).trans hu
 ·obtain ⟨j, hj, rfl⟩ := List.mem_iff_getElem.mp hk
  obtain ⟨_, _, _, h3⟩ := hp j _ (List.getElem?_eq_getElem hj)
  exact h3
theorem proofs_open {fuel : Nat} {a : Option Addr} {len cap : Nat} {y : DataW H × List MemPlace} (h : DataW.trod enc Try.prog W 0 (fun _ => true) true fuel 25 [.slice a len cap] = some y) :
    ∃ l : List Pf, l.length = len ∧ len ≤ cap ∧ Ps W a l ∧ ∀ p ∈ l, p.X < 4294967296 ∧ p.B < 4294967296 := by
 rcases Go.Deep.open_slice Try.underlying25 h with ⟨hcs, rfl⟩ | ⟨ad, len', cap', m, n, D, Pl, hcs, _, hl, hm, rfl, rfl, hel⟩
 ·injection hcs with hcs _
  injection hcs with e1 e2 e3
  subst e1 e2 e3
  exact ⟨[], rfl, Nat.le_refl _, fun i hi => absurd hi (by simp), fun k hk => absurd hk (by simp)⟩
 injection hcs with hcs _
 injection hcs with e1 e2 e3
 subst e1 e2 e3
 obtain ⟨l, hll, hp⟩ := list_choose (α := Pf) (P := fun i p => ∃ cs' : List Value, W.cells? 0 (ad.add (i * 3)) 3 = some cs' ∧ cs' = [.int .u32 (p.X : Int), .int .u32 (p.B : Int), .bool p.H] ∧ p.X < 4294967296 ∧ p.B < 4294967296) len (fun i hi => by
  obtain ⟨cs', h1, h2⟩ := hel i (by show i < cap; omega)
  rw [cells32] at h1
  obtain ⟨k, h3, h4⟩ := proof_open h2
  exact ⟨k, cs', h1, h3, h4⟩)
 subst hll
 refine ⟨l, rfl, hl, fun i hi => ⟨ad, rfl, ?_⟩, fun k hk => ?_⟩
 ·obtain ⟨cs', h1, rfl, _⟩ := hp i _ (List.getElem?_eq_getElem hi)
  have hc := (World.cells?_some h1).2.2
  rw [List.getD_eq_getElem?_getD, List.getElem?_eq_getElem hi, Option.getD_some]
  exact ⟨hc 0 (by omega), hc 1 (by omega), hc 2 (by omega)⟩
 ·obtain ⟨j, hj, rfl⟩ := List.mem_iff_getElem.mp hk
  obtain ⟨_, _, _, h3⟩ := hp j _ (List.getElem?_eq_getElem hj)
  exact h3
end
end Go.Proofs.Ytkicfaboibfbpaa.A
end
section
set_option linter.unusedVariables false
set_option linter.unusedSimpArgs false
namespace Go.Proofs.Ytkicfaboibfbpaa.A
open Go.RowKit Go.Proofs.YtkicfaboibfbpaaW.PrintWords Go.Proofs.YtkicfaboibfbpaaW.PrintLast Go.Proofs.YtkicfaboibfbpaaW.PrintMore Go.Proofs.Ytkicfaboibfbpaa.PCurveAts
theorem KsA.one {w : World} {g n c : Nat} {A : Option Addr} {l : List (Nat × Nat)} (h : w.heap[g]? = some (.cells #[.slice A n c] 23 (0, 0))) (hn : l.length = n) (hc : n ≤ c) (hK : Kn w A l) : KsA w (some ⟨g, 0, none⟩) [l] := by
 subst hn
 refine ⟨[(A, l.length, c)], rfl, Kd.C_of_reads (d := (none, 0, 0)) ⟨rfl, (by show 1 ≤ 9223372036854775807; decide), fun _ => ⟨_, rfl, fun j hj => ?_⟩⟩, fun i hi => ?_⟩
 ·have : j = 0 := by simp at hj; exact hj
  subst this
  rw [add_plain, blk_cell h _]; rfl
 ·have : i = 0 := by simp at hi; exact hi
  subst this
  exact ⟨rfl, hc, hK⟩
section
variable {P : Program} {ops : Array Oper} {Q : Exit → Act → World → Prop} {o : Oper} {rest : List Oper} {a : Act}
/-- a literal row of one cell is made -/
theorem box_like {W : World} (hgd : o.guard = none) {N : Tmp} (_hd : o.dst = some N) {cs : Array Value} {t : TypeId} {n c : Nat}
    (hrun : (execOp a.eval o).run P W = .ok (.value (.slice (some ⟨W.heap.size, 0, none⟩) n c)) (W.alloc (.cells cs t (0, 0))))
    (h : ∀ g, g = W.heap.size → ∀ w1, w1.heap[g]? = some (.cells cs t (0, 0)) → Below W.heap.size W w1 → wpList P ops Q rest (a.put o.dst (.slice (some ⟨g, 0, none⟩) n c)) w1) : wpList P ops Q (o :: rest) a W :=
 Kd.event_run hgd hrun (h _ rfl _ (blk_new W _) (below_alloc (Below.refl _ _) _))
end
set_option maxHeartbeats 32000000 in
set_option maxRecDepth 100000 in
theorem curveLeasts_main (A1 : Option Addr) (c1 : Nat) (l : List (Nat × Nat)) (A2 : Option Addr) (c2 : Nat) (xs : List Nat) (A3 : Option Addr) (c3 : Nat) (ps : List Pf) (w : World) (hK : Kn w A1 l) (hc1 : l.length ≤ c1) (hl : kok l) (hX : Ws w A2 xs) (hc2 : xs.length ≤ c2) (hx : ∀ i, gt xs i < 4294967296) (hP : Ps w A3 ps) (hc3 : ps.length ≤ c3) (hpw : ∀ p ∈ ps, p.X < 4294967296 ∧ p.B < 4294967296) (g1 : ¬ 200 < l.length) (g2 : ¬ 100 < xs.length) (g3 : ¬ 100 < ps.length) (h0 : chk l = 0) :
    Calls Try.prog 4 #[.slice A1 l.length c1, .slice A2 xs.length c2, .slice A3 ps.length c3] w fun e w' => e = .returned (.bool true) ∧ Below w.heap.size w w' := by
 have HMK : Aside0 (∀ W, Below w.heap.size w W → Calls Try.prog 11 #[.slice A1 l.length c1] W fun e w' => ∃ g B cb, e = .returned (.tuple #[.pointer (some ⟨g, 0, none⟩), .bool true, .bool true]) ∧ NewC w' W.heap.size g B cb l ∧ Below W.heap.size W w') := ⟨fun W hb => makes_ok A1 c1 l hl (by omega) hc1 h0 W (hK.below hb)⟩
 have hv := chk_val hl h0
 have HV : Aside0 (Val l) := ⟨hv⟩
 have HK : Aside0 (∀ w', Below w.heap.size w w' → Kn w' A1 l) := ⟨fun w' hb => hK.below hb⟩
 have HX : Aside0 (∀ w', Below w.heap.size w w' → Ws w' A2 xs) := ⟨fun w' hb => hX.below hb⟩
 have HG := Aside0.mk hx
 have HLL := Aside0.mk hl
 have HPS : Aside0 (∀ w', Below w.heap.size w w' → Ps w' A3 ps) := ⟨fun w' hb => hP.below hb⟩
 have HPW := Aside0.mk hpw
 have RF := ris_at hv
 have EN := ends_ok hv
 obtain ⟨F, hF⟩ : ∃ F, atP l = F := ⟨_, rfl⟩
 obtain ⟨lo, hlo⟩ : ∃ u, lo0 l = u := ⟨_, rfl⟩
 obtain ⟨hi, hhi⟩ : ∃ u, hi0 l = u := ⟨_, rfl⟩
 have HCL : Aside0 (∀ W g B cb (y : Nat), y < 4294967296 → CvB W g B cb l → Calls Try.prog 13 #[.pointer (some ⟨g, 0, none⟩), .int .u32 (y : Int)] W fun e w' => e = .returned (.tuple #[.agg #[.int .u32 ((lst F lo hi y).X : Int), .int .u32 ((lst F lo hi y).B : Int), .bool (lst F lo hi y).H], .int .i64 ((lerr F hi y : Nat) : Int)]) ∧ Below W.heap.size W w') := ⟨fun W g B cb y hy h => by
  have := Leastc_calls g B cb l hv W h y hy
  rw [hF, hlo, hhi] at this
  exact this⟩
 have HRL : Aside0 (∀ W A c (y : Nat), y < 4294967296 → KsA W A [l] → Calls Try.prog 12 #[.slice A 1 c, .int .u32 (y : Int)] W fun e w' => e = .returned (.tuple #[.agg #[.int .u32 ((lst F lo hi y).X : Int), .int .u32 ((lst F lo hi y).B : Int), .bool (lst F lo hi y).H], .int .i64 ((lerr F hi y : Nat) : Int)]) ∧ Below W.heap.size W w') := ⟨fun W A c y hy h => by
  have := rLeast_calls A c [l] (fun m hm => by simp at hm; rw [hm]; exact hv) (by simp) (by simp) y hy W h
  have e : atA [l] = F := by rw [← hF]; funext x; rfl
  rw [e, show lo0 ([l].getD 0 []) = lo from hlo, show hi0 ([l].getD 0 []) = hi from hhi] at this
  exact this⟩
 have HCK : Aside0 (∀ W g B cb (y : Nat) (p : Pf), y < 4294967296 → p.X < 4294967296 → CvB W g B cb l → Calls Try.prog 14 #[.pointer (some ⟨g, 0, none⟩), .int .u32 (y : Int), .agg #[.int .u32 (p.X : Int), .int .u32 (p.B : Int), .bool p.H]] W fun e w' => e = .returned (.bool (!noY F hi y && decide (p = lst F lo hi y))) ∧ Below W.heap.size W w') := ⟨fun W g B cb y p hy hpX h => by
  have := Checkc_calls g B cb l hv W h y p.X p.B p.H hy hpX
  rw [check_lst RF EN.1 EN.2.1 EN.2.2.1 EN.2.2.2.1 EN.2.2.2.2 hy p hpX, hF, hlo, hhi] at this
  exact this⟩
 have HLX : Aside0 (∀ y : Nat, (lst F lo hi y).X < 4294967296 ∧ (lst F lo hi y).B < 4294967296) := ⟨fun y => by
  rw [hF] at RF
  rw [hlo, hhi] at EN
  cases h : noY F hi y
  ·have hh := lst_X RF EN.1 EN.2.1 EN.2.2.1 EN.2.2.2.1 EN.2.2.2.2 y h
   refine ⟨hh.2.2.2, ?_⟩
   have hw := kf_word EN.2.1
   by_cases h0 : lstN F lo hi y = 0
   ·rw [lst_0 h h0]; show 0 < 4294967296; decide
   ·rw [lst_n h h0]; exact fk_word (by omega)
  ·rw [lst_no h]; decide⟩
 have hk32 := Try.underlying32
 obtain ⟨n, hn⟩ : ∃ n, l.length = n := ⟨_, rfl⟩
 obtain ⟨m, hm⟩ : ∃ n, xs.length = n := ⟨_, rfl⟩
 have HN := Aside0.mk hn
 have HM := Aside0.mk hm
 rw [hn] at g1 hc1 ⊢
 rw [hm] at g2 hc2 ⊢
 have d1 : decide ((n : Int) > 200) = false := decide_eq_false (by omega)
 have d2 : (200 < n) = False := eq_false (by omega)
 have d3 : decide ((m : Int) > 100) = false := decide_eq_false (by omega)
 have d4 : (100 < m) = False := eq_false (by omega)
 have HC1 := Aside0.mk hc1
 have HSZ : Aside0 (n ≤ 200 ∧ m ≤ 100) := ⟨by omega⟩
 obtain ⟨k, hk⟩ : ∃ n, ps.length = n := ⟨_, rfl⟩
 have HKP := Aside0.mk hk
 rw [hk] at g3 hc3 ⊢
 have d5 : decide ((k : Int) > 100) = false := decide_eq_false (by omega)
 have d6 : (100 < k) = False := eq_false (by omega)
 have HSK : Aside0 (k ≤ 100) := ⟨by omega⟩
 rw [hn] at HMK
 have HKW : Aside0 (n ≤ c1) := ⟨hc1⟩
 clear hK hc1 hl hX hc2 hx hP hc3 hpw hn hm hk g1 g2 g3 h0 hv RF EN hF hlo hhi
 go_enter Try.func4, Try.ntmps4
 go_wp2_with (first | (go_at_call 10; (with_reducible refine (known_calls _).mono ?_); rintro e w1 ⟨rfl, hb⟩; have B1 := Aside0.mk hb; clear hb) | (go_at_call 11; (with_reducible refine (HMK.out w1 B1.out).mono ?_); rintro e w2 ⟨g, B, cb, rfl, hC, hb⟩; have B2 := Aside0.mk (below_step B1.out hb); have C2 : Aside0 (CvB w2 g B cb l) := ⟨hC.2.1⟩; clear hC hb) | ((with_reducible refine gate_dst (N := 49) rfl ?_); refine box_like (cs := #[.slice A1 n c1]) (t := 23) (n := 1) (c := 1) rfl (N := 49) rfl ?hr ?_; (case hr => first | (go_simp; done) | (go_simp; rfl)); intro gsl hg_ w3 hm_ hb_; have B3 := Aside0.mk (below_step B2.out hb_); have C3 : Aside0 (CvB w3 g B cb l) := ⟨C2.out.below hb_⟩; have K3 : Aside0 (KsA w3 (some ⟨gsl, 0, none⟩) [l]) := ⟨KsA.one hm_ HN.out HKW.out (HK.out _ B3.out)⟩; clear hm_ hb_ hg_))
 generalize w3 = W0 at *
 go_loopg [11] m (fun kx s11 wr => ∃ i : Nat, s11 = .int .i64 (i : Int) ∧ i ≤ m ∧ m - i ≤ kx ∧ Aside0 (Below W0.heap.size W0 wr))
 case atStart => exact ⟨0, rfl, Nat.zero_le _, by omega, ⟨Below.refl _ _⟩⟩
 case round =>
  obtain ⟨i, rfl, i1, i2, HB⟩ := hrel
  have hs := HSZ.out
  by_cases hin : i < m
  case neg =>
   obtain rfl : i = m := by omega
   have dd : decide ((i : Int) < (i : Int)) = false := decide_eq_false (by omega)
   clear hs hin
   go_wp2
   go_ret
   exact ⟨rfl, below_step B3.out HB.out⟩
  have HIN := Aside0.mk hin
  have HIX : Aside0 (i < xs.length) := ⟨by have := HM.out; omega⟩
  have e1i : decide ((0 : Int) ≤ (i : Int)) = true := decide_eq_true (by omega)
  have e2i : decide ((i : Int) < (m : Int)) = true := decide_eq_true (by omega)
  have e5i : ((0 : Int) ≤ (i : Int)) = True := eq_true (by omega)
  have e6i : ((i : Int) < (m : Int)) = True := eq_true (by omega)
  have e7i : (i < m) = True := eq_true (by omega)
  have wi : IntKind.i64.wrap ((i : Int) + 1) = ((i + 1 : Nat) : Int) := by rw [show IntKind.i64.wrap ((i : Int) + 1) = wrap64 ((i : Int) + 1) from i64_w _, w64 (by omega) (by omega)]; omega
  obtain ⟨ax, rfl, hcx⟩ := (HX.out wr (below_step B3.out HB.out)).at_ i HIX.out
  have HYW : Aside0 (gt xs i < 4294967296) := ⟨HG.out i⟩
  obtain ⟨q, hq⟩ : ∃ q, gt xs i = q := ⟨_, rfl⟩
  rw [hq] at hcx HYW
  obtain ⟨P, hP⟩ : ∃ P, lst F lo hi q = P := ⟨_, rfl⟩
  obtain ⟨er, her⟩ : ∃ e, lerr F hi q = e := ⟨_, rfl⟩
  obtain ⟨ny, hny⟩ : ∃ b, noY F hi q = b := ⟨_, rfl⟩
  have HC : Aside0 (∀ W, Below wr.heap.size wr W → CvB W g B cb l) := ⟨fun W hb => (C3.out.below HB.out).below hb⟩
  have HKS : Aside0 (∀ W, Below wr.heap.size wr W → KsA W (some ⟨gsl, 0, none⟩) [l]) := ⟨fun W hb => (K3.out.below HB.out).below hb⟩
  have HX1 : Aside0 (P.X < 4294967296 ∧ P.B < 4294967296) := ⟨by rw [← hP]; exact HLX.out q⟩
  have HL1 : Aside0 (∀ W, Below wr.heap.size wr W → Calls Try.prog 12 #[.slice (some ⟨gsl, 0, none⟩) 1 1, .int .u32 (q : Int)] W fun e w' => e = .returned (.tuple #[.agg #[.int .u32 (P.X : Int), .int .u32 (P.B : Int), .bool P.H], .int .i64 (er : Int)]) ∧ Below W.heap.size W w') := ⟨fun W hb => by
   have := HRL.out W _ 1 q HYW.out (HKS.out W hb)
   rwa [hP, her] at this⟩
  have HL2 : Aside0 (∀ W, Below wr.heap.size wr W → Calls Try.prog 13 #[.pointer (some ⟨g, 0, none⟩), .int .u32 (q : Int)] W fun e w' => e = .returned (.tuple #[.agg #[.int .u32 (P.X : Int), .int .u32 (P.B : Int), .bool P.H], .int .i64 (er : Int)]) ∧ Below W.heap.size W w') := ⟨fun W hb => by
   have := HCL.out W g B cb q HYW.out (HC.out W hb)
   rwa [hP, her] at this⟩
  have HK1 : Aside0 (∀ (W : World) (p : Pf), p.X < 4294967296 → Below wr.heap.size wr W → Calls Try.prog 14 #[.pointer (some ⟨g, 0, none⟩), .int .u32 (q : Int), .agg #[.int .u32 (p.X : Int), .int .u32 (p.B : Int), .bool p.H]] W fun e w' => e = .returned (.bool (!ny && decide (p = P))) ∧ Below W.heap.size W w') := ⟨fun W p hp hb => by
   have := HCK.out W g B cb q p HYW.out hp (HC.out W hb)
   rwa [hP, hny] at this⟩
  have hE : (ny = true ∧ er = 43) ∨ (ny = false ∧ er = 0) := by
   rw [← her]
   unfold lerr
   rw [hny]
   cases ny
   ·exact .inr ⟨rfl, rfl⟩
   ·exact .inl ⟨rfl, rfl⟩
  have te : ((er : Int) != (er : Int)) = false := by rw [bne_eq_false_iff_eq]
  have t0 : ((er : Int) == 0) = !ny := by
   rcases hE with ⟨h1, h2⟩ | ⟨h1, h2⟩ <;> rw [h1, h2] <;> rfl
  have hne : ∀ w : World, (binOp .neq 32 (.agg #[.int .u32 (P.X : Int), .int .u32 (P.B : Int), .bool P.H]) (.agg #[.int .u32 (P.X : Int), .int .u32 (P.B : Int), .bool P.H])).run Try.prog w = .ok (.bool false) w := fun w => by
   have := neq32 P P w
   rwa [decide_eq_true rfl] at this
  have HK0 : Aside0 (∀ W, Below wr.heap.size wr W → Calls Try.prog 14 #[.pointer (some ⟨g, 0, none⟩), .int .u32 (q : Int), .agg #[.int .u32 (P.X : Int), .int .u32 (P.B : Int), .bool P.H]] W fun e w' => e = .returned (.bool (!ny)) ∧ Below W.heap.size W w') := ⟨fun W hb => by
   have := HK1.out W P HX1.out.1 hb
   rwa [decide_eq_true rfl, Bool.and_true] at this⟩
  have HEQ : ∀ (p : Pf) (w : World), (binOp .eql 32 (.agg #[.int .u32 (p.X : Int), .int .u32 (p.B : Int), .bool p.H]) (.agg #[.int .u32 (P.X : Int), .int .u32 (P.B : Int), .bool P.H])).run Try.prog w = .ok (.bool (decide (p = P))) w := fun p w => eql32 p P w
  have HEA := Aside0.mk HEQ
  have HHB := Aside0.mk HB.out
  have B_0 : Aside0 (Below wr.heap.size wr wr) := ⟨Below.refl _ _⟩
  obtain ⟨pX, pB, pH⟩ := P
  simp only at hne HL1 HL2 HK0 HX1 HEQ
  have HEQA := Aside0.mk HEQ
  clear hs hin hE hq hP her hny HEA HB HEQ
  generalize wr = W1 at *
  have HCX : Aside0 (∀ W, Below W1.heap.size W1 W → W.cell? (ax.add i) = some (.int .u32 (q : Int))) := ⟨fun W hb => pw_cell_below hb hcx⟩
  go_wp2_with (first | (go_at_call 12; (with_reducible refine (HL1.out _ B_0.out).mono ?_); rintro e w1 ⟨rfl, hb⟩; have B_1 := Aside0.mk (below_step B_0.out hb); clear hcx; clear hb) | ((with_reducible refine gate_dst (N := 12) rfl ?_); refine box_event ?hg (N := 12) ?hd (cs := #[.int .u32 0, .int .u32 0, .bool false]) (t := 32) ?hr ?_; (case hd => rfl); (case hg => rfl); (case hr => first | (go_simp; done) | (go_simp; rfl)); intro g12 hg_ w2 hm_ hb_; have GP := Aside0.mk (show W1.heap.size ≤ g12 by rw [hg_]; exact B_1.out.size); have B_2 := Aside0.mk (below_step B_1.out hb_); have P_2 := Aside0.mk (hm_); clear hm_ hb_ hg_) | ((with_reducible refine gate_store (p := 12) rfl ?_); refine store_event rfl rfl rfl g12 #[.int .u32 (pX : Int), .int .u32 (pB : Int), .bool pH] _ 32 rfl rfl P_2.out size32 rfl (by simp [Value.oneCell']) ?_; intro w3 hm_ hst_ hbl_; have B_3 := Aside0.mk (B_2.out.trans (hbl_ _ GP.out)); have P_3 := Aside0.mk (hm_); clear P_2 hm_ hst_ hbl_; have cy := HCX.out _ B_3.out) | (go_at_call 13; (with_reducible refine (HL2.out _ B_3.out).mono ?_); rintro e w4 ⟨rfl, hb⟩; have B_4 := Aside0.mk (below_step B_3.out hb); have P_4 := Aside0.mk (blk_below P_3.out hb); clear P_3; clear cy; clear hb) | ((with_reducible refine gate_dst (N := 14) rfl ?_); refine box_event ?hg (N := 14) ?hd (cs := #[.int .u32 0, .int .u32 0, .bool false]) (t := 32) ?hr ?_; (case hd => rfl); (case hg => rfl); (case hr => first | (go_simp; done) | (go_simp; rfl)); intro g14 hg_ w5 hm_ hb_; have NEPQ := Aside0.mk (show g12 ≠ g14 by rw [hg_]; have := blk_lt P_4.out; omega); have GQ := Aside0.mk (show W1.heap.size ≤ g14 by rw [hg_]; exact B_4.out.size); have B_5 := Aside0.mk (below_step B_4.out hb_); have P_5 := Aside0.mk (blk_below P_4.out hb_); clear P_4; have Q_5 := Aside0.mk (hm_); clear hm_ hb_ hg_) | ((with_reducible refine gate_store (p := 14) rfl ?_); refine store_event rfl rfl rfl g14 #[.int .u32 (pX : Int), .int .u32 (pB : Int), .bool pH] _ 32 rfl rfl Q_5.out size32 rfl (by simp [Value.oneCell']) ?_; intro w6 hm_ hst_ hbl_; have B_6 := Aside0.mk (B_5.out.trans (hbl_ _ GQ.out)); have P_6 := Aside0.mk ((hst_ g12 NEPQ.out).trans P_5.out); have Q_6 := Aside0.mk (hm_); clear P_5 Q_5 hm_ hst_ hbl_))
  have B_7 : Aside0 (Below W1.heap.size W1 w6.drew) := ⟨below_drew B_6.out⟩
  have P_7 := Aside0.mk (blk_drew P_6.out)
  have Q_7 := Aside0.mk (blk_drew Q_6.out)
  clear B_6 P_6 Q_6
  refine start_ (n := 20) (S := fun w' => w'.cell? (ax.add i) = some (.int .u32 (q : Int)) ∧ w'.cell? ⟨g12, 0, none⟩ = some (.int .u32 (pX : Int)) ∧ w'.cell? ⟨g12, 1, none⟩ = some (.int .u32 (pB : Int)) ∧ w'.cell? ⟨g12, 2, none⟩ = some (.bool pH) ∧ w'.cell? ⟨g14, 0, none⟩ = some (.int .u32 (pX : Int)) ∧ w'.cell? ⟨g14, 1, none⟩ = some (.int .u32 (pB : Int)) ∧ w'.cell? ⟨g14, 2, none⟩ = some (.bool pH)) (ds := []) #[ff_,ff_,ff_,ff_,ff_,ff_,ff_,ff_,ff_,ff_,ff_,ff_,ff_,ff_,ff_,ff_,ff_,ff_,ff_,ff_] (by kernel_rfl) rfl rfl ⟨HCX.out _ B_7.out, (blk_cell P_7.out 0).trans rfl, (blk_cell P_7.out 1).trans rfl, (blk_cell P_7.out 2).trans rfl, (blk_cell Q_7.out 0).trans rfl, (blk_cell Q_7.out 1).trans rfl, (blk_cell Q_7.out 2).trans rfl⟩ (fun hHeld => ?_)
  generalize w6.drew = w7 at *
  refine pure_ (i := 0) (N := some 74) (v := ?_) (a' := ?_) #[tt_,ff_,ff_,ff_,ff_,ff_,ff_,ff_,ff_,ff_,ff_,ff_,ff_,ff_,ff_,ff_,ff_,ff_,ff_,ff_] rfl rfl (by kernel_rfl) (fun _ _ _ h => h) (Or.inl ⟨by rfl, ?_⟩) ?_ ?_
  rotate_left
  ·intro w'
   go_simp
   with_reducible rfl
  rotate_left
  ·simp only [Act.put, List.setIfInBounds_toArray, List.set_cons_zero, List.set_cons_succ, i64_w, i32_w]
   rfl
  refine pure_ (i := 1) (N := some 75) (v := ?_) (a' := ?_) #[tt_,tt_,ff_,ff_,ff_,ff_,ff_,ff_,ff_,ff_,ff_,ff_,ff_,ff_,ff_,ff_,ff_,ff_,ff_,ff_] rfl rfl (by kernel_rfl) (fun _ _ _ h => h) (Or.inl ⟨by rfl, ?_⟩) ?_ ?_
  rotate_left
  ·intro w'
   go_simp
   with_reducible rfl
  rotate_left
  ·simp only [Act.put, List.setIfInBounds_toArray, List.set_cons_zero, List.set_cons_succ, i64_w, i32_w]
   rfl
  refine pure_ (i := 2) (N := some 76) (v := ?_) (a' := ?_) #[tt_,tt_,tt_,ff_,ff_,ff_,ff_,ff_,ff_,ff_,ff_,ff_,ff_,ff_,ff_,ff_,ff_,ff_,ff_,ff_] rfl rfl (by kernel_rfl) (fun _ _ _ h => h) (Or.inl ⟨by rfl, ?_⟩) ?_ ?_
  rotate_left
  ·intro w'
   go_simp
   with_reducible rfl
  rotate_left
  ·simp only [Act.put, List.setIfInBounds_toArray, List.set_cons_zero, List.set_cons_succ, i64_w, i32_w]
   rfl
  refine pure_ (i := 3) (N := some 77) (v := ?_) (a' := ?_) #[tt_,tt_,tt_,tt_,ff_,ff_,ff_,ff_,ff_,ff_,ff_,ff_,ff_,ff_,ff_,ff_,ff_,ff_,ff_,ff_] rfl rfl (by kernel_rfl) (fun _ _ _ h => h) (Or.inl ⟨by rfl, ?_⟩) ?_ ?_
  rotate_left
  ·intro w'
   go_simp
   with_reducible rfl
  rotate_left
  ·simp only [Act.put, List.setIfInBounds_toArray, List.set_cons_zero, List.set_cons_succ, i64_w, i32_w]
   rfl
  refine take_ (i := 4) (N := some 78) (v := ?_) (a' := ?_) #[tt_,tt_,tt_,tt_,tt_,ff_,ff_,ff_,ff_,ff_,ff_,ff_,ff_,ff_,ff_,ff_,ff_,ff_,ff_,ff_] rfl rfl (by kernel_rfl) (fun _ _ _ h => h) (Or.inl ⟨by rfl, ?_⟩) hHeld ?_ ?_
  rotate_left
  ·rintro w' ⟨s0, s1, s2, s3, s4, s5, s6⟩
   go_simp
   with_reducible rfl
  rotate_left
  ·simp only [Act.put, List.setIfInBounds_toArray, List.set_cons_zero, List.set_cons_succ, i64_w, i32_w]
   rfl
  refine take_ (i := 5) (N := some 79) (v := ?_) (a' := ?_) #[tt_,tt_,tt_,tt_,tt_,tt_,ff_,ff_,ff_,ff_,ff_,ff_,ff_,ff_,ff_,ff_,ff_,ff_,ff_,ff_] rfl rfl (by kernel_rfl) (fun _ _ _ h => h) (Or.inl ⟨by rfl, ?_⟩) hHeld ?_ ?_
  rotate_left
  ·rintro w' ⟨s0, s1, s2, s3, s4, s5, s6⟩
   go_simp
   with_reducible rfl
  rotate_left
  ·simp only [Act.put, List.setIfInBounds_toArray, List.set_cons_zero, List.set_cons_succ, i64_w, i32_w]
   rfl
  refine pure_ (i := 6) (N := some 80) (v := ?_) (a' := ?_) #[tt_,tt_,tt_,tt_,tt_,tt_,tt_,ff_,ff_,ff_,ff_,ff_,ff_,ff_,ff_,ff_,ff_,ff_,ff_,ff_] rfl rfl (by kernel_rfl) (fun _ _ _ h => h) (Or.inl ⟨by rfl, ?_⟩) ?_ ?_
  rotate_left
  ·intro w'
   go_simp
   with_reducible rfl
  rotate_left
  ·simp only [Act.put, List.setIfInBounds_toArray, List.set_cons_zero, List.set_cons_succ, i64_w, i32_w]
   rfl
  refine pure_ (i := 7) (N := some 81) (v := ?_) (a' := ?_) #[tt_,tt_,tt_,tt_,tt_,tt_,tt_,tt_,ff_,ff_,ff_,ff_,ff_,ff_,ff_,ff_,ff_,ff_,ff_,ff_] rfl rfl (by kernel_rfl) (fun _ _ _ h => h) (Or.inl ⟨by rfl, ?_⟩) ?_ ?_
  rotate_left
  ·intro w'
   go_simp
   with_reducible rfl
  rotate_left
  ·simp only [Act.put, List.setIfInBounds_toArray, List.set_cons_zero, List.set_cons_succ, i64_w, i32_w]
   rfl
  refine pure_ (i := 8) (N := some 82) (v := ?_) (a' := ?_) #[tt_,tt_,tt_,tt_,tt_,tt_,tt_,tt_,tt_,ff_,ff_,ff_,ff_,ff_,ff_,ff_,ff_,ff_,ff_,ff_] rfl rfl (by kernel_rfl) (fun _ _ _ h => h) (Or.inl ⟨by rfl, ?_⟩) ?_ ?_
  rotate_left
  ·intro w'
   go_simp
   with_reducible rfl
  rotate_left
  ·simp only [Act.put, List.setIfInBounds_toArray, List.set_cons_zero, List.set_cons_succ, i64_w, i32_w]
   rfl
  refine pure_ (i := 9) (N := some 83) (v := ?_) (a' := ?_) #[tt_,tt_,tt_,tt_,tt_,tt_,tt_,tt_,tt_,tt_,ff_,ff_,ff_,ff_,ff_,ff_,ff_,ff_,ff_,ff_] rfl rfl (by kernel_rfl) (fun _ _ _ h => h) (Or.inl ⟨by rfl, ?_⟩) ?_ ?_
  rotate_left
  ·intro w'
   go_simp
   with_reducible rfl
  rotate_left
  ·simp only [Act.put, List.setIfInBounds_toArray, List.set_cons_zero, List.set_cons_succ, i64_w, i32_w]
   rfl
  refine pure_ (i := 10) (N := some 84) (v := ?_) (a' := ?_) #[tt_,tt_,tt_,tt_,tt_,tt_,tt_,tt_,tt_,tt_,tt_,ff_,ff_,ff_,ff_,ff_,ff_,ff_,ff_,ff_] rfl rfl (by kernel_rfl) (fun _ _ _ h => h) (Or.inl ⟨by rfl, ?_⟩) ?_ ?_
  rotate_left
  ·intro w'
   go_simp
   with_reducible rfl
  rotate_left
  ·simp only [Act.put, List.setIfInBounds_toArray, List.set_cons_zero, List.set_cons_succ, i64_w, i32_w]
   rfl
  refine pure_ (i := 11) (N := some 85) (v := ?_) (a' := ?_) #[tt_,tt_,tt_,tt_,tt_,tt_,tt_,tt_,tt_,tt_,tt_,tt_,ff_,ff_,ff_,ff_,ff_,ff_,ff_,ff_] rfl rfl (by kernel_rfl) (fun _ _ _ h => h) (Or.inl ⟨by rfl, ?_⟩) ?_ ?_
  rotate_left
  ·intro w'
   go_simp
   with_reducible rfl
  rotate_left
  ·simp only [Act.put, List.setIfInBounds_toArray, List.set_cons_zero, List.set_cons_succ, i64_w, i32_w]
   rfl
  refine pure_ (i := 12) (N := some 86) (v := ?_) (a' := ?_) #[tt_,tt_,tt_,tt_,tt_,tt_,tt_,tt_,tt_,tt_,tt_,tt_,tt_,ff_,ff_,ff_,ff_,ff_,ff_,ff_] rfl rfl (by kernel_rfl) (fun _ _ _ h => h) (Or.inl ⟨by rfl, ?_⟩) ?_ ?_
  rotate_left
  ·intro w'
   go_simp
   with_reducible rfl
  rotate_left
  ·simp only [Act.put, List.setIfInBounds_toArray, List.set_cons_zero, List.set_cons_succ, i64_w, i32_w]
   rfl
  refine pure_ (i := 16) (N := some 90) (v := ?_) (a' := ?_) #[tt_,tt_,tt_,tt_,tt_,tt_,tt_,tt_,tt_,tt_,tt_,tt_,tt_,ff_,ff_,ff_,tt_,ff_,ff_,ff_] rfl rfl (by kernel_rfl) (fun _ _ _ h => h) (Or.inl ⟨by rfl, ?_⟩) ?_ ?_
  rotate_left
  ·intro w'
   go_simp
   with_reducible rfl
  rotate_left
  ·simp only [Act.put, List.setIfInBounds_toArray, List.set_cons_zero, List.set_cons_succ, i64_w, i32_w]
   rfl
  refine pure_ (i := 17) (N := some 91) (v := ?_) (a' := ?_) #[tt_,tt_,tt_,tt_,tt_,tt_,tt_,tt_,tt_,tt_,tt_,tt_,tt_,ff_,ff_,ff_,tt_,tt_,ff_,ff_] rfl rfl (by kernel_rfl) (fun _ _ _ h => h) (Or.inl ⟨by rfl, ?_⟩) ?_ ?_
  rotate_left
  ·intro w'
   go_simp
   with_reducible rfl
  rotate_left
  ·simp only [Act.put, List.setIfInBounds_toArray, List.set_cons_zero, List.set_cons_succ, i64_w, i32_w]
   rfl
  refine take_ (i := 13) (N := some 87) (v := ?_) (a' := ?_) #[tt_,tt_,tt_,tt_,tt_,tt_,tt_,tt_,tt_,tt_,tt_,tt_,tt_,tt_,ff_,ff_,tt_,tt_,ff_,ff_] rfl rfl (by kernel_rfl) (fun _ _ _ h => h) (Or.inl ⟨by rfl, ?_⟩) hHeld ?_ ?_
  rotate_left
  ·rintro w' ⟨s0, s1, s2, s3, s4, s5, s6⟩
   go_simp
   with_reducible rfl
  rotate_left
  ·simp only [Act.put, List.setIfInBounds_toArray, List.set_cons_zero, List.set_cons_succ, i64_w, i32_w]
   rfl
  refine take_ (i := 14) (N := some 88) (v := ?_) (a' := ?_) #[tt_,tt_,tt_,tt_,tt_,tt_,tt_,tt_,tt_,tt_,tt_,tt_,tt_,tt_,tt_,ff_,tt_,tt_,ff_,ff_] rfl rfl (by kernel_rfl) (fun _ _ _ h => h) (Or.inl ⟨by rfl, ?_⟩) hHeld ?_ ?_
  rotate_left
  ·rintro w' ⟨s0, s1, s2, s3, s4, s5, s6⟩
   go_simp
   with_reducible rfl
  rotate_left
  ·simp only [Act.put, List.setIfInBounds_toArray, List.set_cons_zero, List.set_cons_succ, i64_w, i32_w]
   rfl
  refine one_ (i := 15) (N := some 89) #[tt_,tt_,tt_,tt_,tt_,tt_,tt_,tt_,tt_,tt_,tt_,tt_,tt_,tt_,tt_,tt_,tt_,tt_,ff_,ff_] rfl rfl (by kernel_rfl) (by decide) (fun K hK => ?_)
  refine goes_ Try.func14 (by kernel_rfl) rfl #[.pointer (some ⟨g, 0, none⟩), .int .u32 (q : Int), .agg #[.int .u32 (pX : Int), .int .u32 (pB : Int), .bool pH]] (by rfl) rfl rfl (by (try simp only [List.map_toArray, List.map_cons, List.map_nil]); rfl) ?_
  with_reducible refine (HK0.out _ B_7.out).mono ?_
  rintro e w8 ⟨rfl, hb⟩
  refine ⟨_, rfl, ?_⟩
  have B_8 := Aside0.mk (below_step B_7.out hb)
  have P_8 := Aside0.mk (blk_below P_7.out hb)
  have Q_8 := Aside0.mk (blk_below Q_7.out hb)
  clear P_7 Q_7
  clear hb
  refine hK.out _ _ ⟨HCX.out _ B_8.out, (blk_cell P_8.out 0).trans rfl, (blk_cell P_8.out 1).trans rfl, (blk_cell P_8.out 2).trans rfl, (blk_cell Q_8.out 0).trans rfl, (blk_cell Q_8.out 1).trans rfl, (blk_cell Q_8.out 2).trans rfl⟩ (fun hHeld => ?_)
  clear hK K
  refine norm_ (a' := ?_) ?_ ?_
  rotate_left
  ·show Act.put _ (some 89) _ = _
   simp only [Act.put, List.setIfInBounds_toArray, List.set_cons_zero, List.set_cons_succ, i64_w, i32_w]
   rfl
  refine pure_ (i := 18) (N := some 92) (v := ?_) (a' := ?_) #[tt_,tt_,tt_,tt_,tt_,tt_,tt_,tt_,tt_,tt_,tt_,tt_,tt_,tt_,tt_,tt_,tt_,tt_,tt_,ff_] rfl rfl (by kernel_rfl) (fun _ _ _ h => h) (Or.inl ⟨by rfl, ?_⟩) ?_ ?_
  rotate_left
  ·intro w'
   go_simp
   with_reducible rfl
  rotate_left
  ·simp only [Act.put, List.setIfInBounds_toArray, List.set_cons_zero, List.set_cons_succ, i64_w, i32_w]
   rfl
  refine pure_ (i := 19) (N := some 93) (v := ?_) (a' := ?_) #[tt_,tt_,tt_,tt_,tt_,tt_,tt_,tt_,tt_,tt_,tt_,tt_,tt_,tt_,tt_,tt_,tt_,tt_,tt_,tt_] rfl rfl (by kernel_rfl) (fun _ _ _ h => h) (Or.inl ⟨by rfl, ?_⟩) ?_ ?_
  rotate_left
  ·intro w'
   go_simp
   with_reducible rfl
  rotate_left
  ·simp only [Act.put, List.setIfInBounds_toArray, List.set_cons_zero, List.set_cons_succ, i64_w, i32_w]
   rfl
  refine done_ (by kernel_rfl) ?_
  clear hne te
  go_wp2
  have HP12 := P_8
  have HB12 := B_8
  clear P_8 Q_8 B_8
  generalize w8 = W2 at *
  cases ny
  case true =>
   have HK2 : Aside0 (∀ (W : World) (p : Pf) (b : Bool), p.X < 4294967296 → Below W1.heap.size W1 W → false = b → Calls Try.prog 14 #[.pointer (some ⟨g, 0, none⟩), .int .u32 (q : Int), .agg #[.int .u32 (p.X : Int), .int .u32 (p.B : Int), .bool p.H]] W fun e w' => e = .returned (.bool b) ∧ Below W.heap.size W w') := ⟨fun W p b hp hb hd => by
    have := HK1.out W p hp hb
    rw [Bool.not_true, Bool.false_and] at this
    rwa [hd] at this⟩
   clear HK1
   have t0' : ((er : Int) == 0) = false := t0
   clear t0
   go_loopg [16] k (fun kx s16 wr => ∃ j : Nat, s16 = .int .i64 (j : Int) ∧ j ≤ k ∧ k - j ≤ kx ∧ Aside0 (Below W2.heap.size W2 wr))
   case atStart => exact ⟨0, rfl, Nat.zero_le _, by omega, ⟨Below.refl _ _⟩⟩
   case round =>
    obtain ⟨j, rfl, j1, j2, HBJ⟩ := hrel
    have hs := HSK.out
    by_cases hjn : j < k
    ·have HJN := Aside0.mk hjn
     have HJP : Aside0 (j < ps.length) := ⟨by have := HKP.out; omega⟩
     have e1j : decide ((0 : Int) ≤ (j : Int)) = true := decide_eq_true (by omega)
     have e2j : decide ((j : Int) < (k : Int)) = true := decide_eq_true (by omega)
     have e5j : ((0 : Int) ≤ (j : Int)) = True := eq_true (by omega)
     have e6j : ((j : Int) < (k : Int)) = True := eq_true (by omega)
     have e7j : (j < k) = True := eq_true (by omega)
     have wi : IntKind.i64.wrap ((j : Int) + 1) = ((j + 1 : Nat) : Int) := by rw [show IntKind.i64.wrap ((j : Int) + 1) = wrap64 ((j : Int) + 1) from i64_w _, w64 (by omega) (by omega)]; omega
     have BW : Aside0 (Below W1.heap.size W1 wr) := ⟨below_step HB12.out HBJ.out⟩
     have BWW : Aside0 (Below w.heap.size w wr) := ⟨below_step (below_step B3.out HHB.out) BW.out⟩
     obtain ⟨ad3, rfl, p0, p1, p2⟩ := HPS.out wr BWW.out j HJP.out
     have HPJ := Aside0.mk (HPW.out _ (getD_mem HJP.out ⟨0, 0, false⟩)).1
     obtain ⟨pj, hpj⟩ : ∃ u, ps.getD j ⟨0, 0, false⟩ = u := ⟨_, rfl⟩
     rw [hpj] at p0 p1 p2 HPJ
     obtain ⟨bb, hbb⟩ : ∃ b, false = b := ⟨_, rfl⟩
     have HBB := Aside0.mk hbb
     subst hbb
     have B_0 : Aside0 (Below wr.heap.size wr wr) := ⟨Below.refl _ _⟩
     have P_0 := Aside0.mk (blk_below HP12.out HBJ.out)
     have HP0 := Aside0.mk p0
     have HP1 := Aside0.mk p1
     have HP2 := Aside0.mk p2
     clear hs hjn hpj p0 p1 p2
     go_wp2
     have B_1 : Aside0 (Below wr.heap.size wr wr.drew) := ⟨below_drew B_0.out⟩
     have P_1 := Aside0.mk (blk_drew P_0.out)
     clear B_0 P_0
     refine start_ (n := 21) (S := fun w' => w'.cell? (ax.add i) = some (.int .u32 (q : Int)) ∧ w'.cell? (ad3.add (j * 3)) = some (.int .u32 (pj.X : Int)) ∧ w'.cell? ⟨(ad3.add (j * 3)).block, (ad3.add (j * 3)).off + 1, none⟩ = some (.int .u32 (pj.B : Int)) ∧ w'.cell? ⟨(ad3.add (j * 3)).block, (ad3.add (j * 3)).off + 2, none⟩ = some (.bool pj.H) ∧ w'.cell? ⟨g12, 0, none⟩ = some (.int .u32 (pX : Int)) ∧ w'.cell? ⟨g12, 1, none⟩ = some (.int .u32 (pB : Int)) ∧ w'.cell? ⟨g12, 2, none⟩ = some (.bool pH)) (ds := []) #[ff_,ff_,ff_,ff_,ff_,ff_,ff_,ff_,ff_,ff_,ff_,ff_,ff_,ff_,ff_,ff_,ff_,ff_,ff_,ff_,ff_] (by kernel_rfl) rfl rfl ⟨HCX.out _ (below_step BW.out B_1.out), pw_cell_below B_1.out HP0.out, pw_cell_below B_1.out HP1.out, pw_cell_below B_1.out HP2.out, (blk_cell P_1.out 0).trans rfl, (blk_cell P_1.out 1).trans rfl, (blk_cell P_1.out 2).trans rfl⟩ (fun hHeld => ?_)
     generalize wr.drew = w1 at *
     refine pure_ (i := 0) (N := some 100) (v := ?_) (a' := ?_) #[tt_,ff_,ff_,ff_,ff_,ff_,ff_,ff_,ff_,ff_,ff_,ff_,ff_,ff_,ff_,ff_,ff_,ff_,ff_,ff_,ff_] rfl rfl (by kernel_rfl) (fun _ _ _ h => h) (Or.inl ⟨by rfl, ?_⟩) ?_ ?_
     rotate_left
     ·intro w'
      go_simp
      with_reducible rfl
     rotate_left
     ·simp only [Act.put, List.setIfInBounds_toArray, List.set_cons_zero, List.set_cons_succ, i64_w, i32_w]
      rfl
     refine pure_ (i := 1) (N := some 101) (v := ?_) (a' := ?_) #[tt_,tt_,ff_,ff_,ff_,ff_,ff_,ff_,ff_,ff_,ff_,ff_,ff_,ff_,ff_,ff_,ff_,ff_,ff_,ff_,ff_] rfl rfl (by kernel_rfl) (fun _ _ _ h => h) (Or.inl ⟨by rfl, ?_⟩) ?_ ?_
     rotate_left
     ·intro w'
      go_simp
      with_reducible rfl
     rotate_left
     ·simp only [Act.put, List.setIfInBounds_toArray, List.set_cons_zero, List.set_cons_succ, i64_w, i32_w]
      rfl
     refine pure_ (i := 2) (N := some 102) (v := ?_) (a' := ?_) #[tt_,tt_,tt_,ff_,ff_,ff_,ff_,ff_,ff_,ff_,ff_,ff_,ff_,ff_,ff_,ff_,ff_,ff_,ff_,ff_,ff_] rfl rfl (by kernel_rfl) (fun _ _ _ h => h) (Or.inl ⟨by rfl, ?_⟩) ?_ ?_
     rotate_left
     ·intro w'
      go_simp
      with_reducible rfl
     rotate_left
     ·simp only [Act.put, List.setIfInBounds_toArray, List.set_cons_zero, List.set_cons_succ, i64_w, i32_w]
      rfl
     refine pure_ (i := 3) (N := some 103) (v := ?_) (a' := ?_) #[tt_,tt_,tt_,tt_,ff_,ff_,ff_,ff_,ff_,ff_,ff_,ff_,ff_,ff_,ff_,ff_,ff_,ff_,ff_,ff_,ff_] rfl rfl (by kernel_rfl) (fun _ _ _ h => h) (Or.inl ⟨by rfl, ?_⟩) ?_ ?_
     rotate_left
     ·intro w'
      go_simp
      with_reducible rfl
     rotate_left
     ·simp only [Act.put, List.setIfInBounds_toArray, List.set_cons_zero, List.set_cons_succ, i64_w, i32_w]
      rfl
     refine pure_ (i := 5) (N := some 105) (v := ?_) (a' := ?_) #[tt_,tt_,tt_,tt_,ff_,tt_,ff_,ff_,ff_,ff_,ff_,ff_,ff_,ff_,ff_,ff_,ff_,ff_,ff_,ff_,ff_] rfl rfl (by kernel_rfl) (fun _ _ _ h => h) (Or.inl ⟨by rfl, ?_⟩) ?_ ?_
     rotate_left
     ·intro w'
      go_simp
      with_reducible rfl
     rotate_left
     ·simp only [Act.put, List.setIfInBounds_toArray, List.set_cons_zero, List.set_cons_succ, i64_w, i32_w]
      rfl
     refine pure_ (i := 6) (N := some 106) (v := ?_) (a' := ?_) #[tt_,tt_,tt_,tt_,ff_,tt_,tt_,ff_,ff_,ff_,ff_,ff_,ff_,ff_,ff_,ff_,ff_,ff_,ff_,ff_,ff_] rfl rfl (by kernel_rfl) (fun _ _ _ h => h) (Or.inl ⟨by rfl, ?_⟩) ?_ ?_
     rotate_left
     ·intro w'
      go_simp
      with_reducible rfl
     rotate_left
     ·simp only [Act.put, List.setIfInBounds_toArray, List.set_cons_zero, List.set_cons_succ, i64_w, i32_w]
      rfl
     refine pure_ (i := 7) (N := some 107) (v := ?_) (a' := ?_) #[tt_,tt_,tt_,tt_,ff_,tt_,tt_,tt_,ff_,ff_,ff_,ff_,ff_,ff_,ff_,ff_,ff_,ff_,ff_,ff_,ff_] rfl rfl (by kernel_rfl) (fun _ _ _ h => h) (Or.inl ⟨by rfl, ?_⟩) ?_ ?_
     rotate_left
     ·intro w'
      go_simp
      with_reducible rfl
     rotate_left
     ·simp only [Act.put, List.setIfInBounds_toArray, List.set_cons_zero, List.set_cons_succ, i64_w, i32_w]
      rfl
     refine pure_ (i := 10) (N := some 110) (v := ?_) (a' := ?_) #[tt_,tt_,tt_,tt_,ff_,tt_,tt_,tt_,ff_,ff_,tt_,ff_,ff_,ff_,ff_,ff_,ff_,ff_,ff_,ff_,ff_] rfl rfl (by kernel_rfl) (fun _ _ _ h => h) (Or.inl ⟨by rfl, ?_⟩) ?_ ?_
     rotate_left
     ·intro w'
      go_simp
      with_reducible rfl
     rotate_left
     ·simp only [Act.put, List.setIfInBounds_toArray, List.set_cons_zero, List.set_cons_succ, i64_w, i32_w]
      rfl
     refine pure_ (i := 11) (N := some 111) (v := ?_) (a' := ?_) #[tt_,tt_,tt_,tt_,ff_,tt_,tt_,tt_,ff_,ff_,tt_,tt_,ff_,ff_,ff_,ff_,ff_,ff_,ff_,ff_,ff_] rfl rfl (by kernel_rfl) (fun _ _ _ h => h) (Or.inl ⟨by rfl, ?_⟩) ?_ ?_
     rotate_left
     ·intro w'
      go_simp
      with_reducible rfl
     rotate_left
     ·simp only [Act.put, List.setIfInBounds_toArray, List.set_cons_zero, List.set_cons_succ, i64_w, i32_w]
      rfl
     refine take_ (i := 4) (N := some 104) (v := ?_) (a' := ?_) #[tt_,tt_,tt_,tt_,tt_,tt_,tt_,tt_,ff_,ff_,tt_,tt_,ff_,ff_,ff_,ff_,ff_,ff_,ff_,ff_,ff_] rfl rfl (by kernel_rfl) (fun _ _ _ h => h) (Or.inl ⟨by rfl, ?_⟩) hHeld ?_ ?_
     rotate_left
     ·rintro w' ⟨s0, s1, s2, s3, s4, s5, s6⟩
      go_simp
      with_reducible rfl
     rotate_left
     ·simp only [Act.put, List.setIfInBounds_toArray, List.set_cons_zero, List.set_cons_succ, i64_w, i32_w]
      rfl
     refine take_ (i := 8) (N := some 108) (v := ?_) (a' := ?_) #[tt_,tt_,tt_,tt_,tt_,tt_,tt_,tt_,tt_,ff_,tt_,tt_,ff_,ff_,ff_,ff_,ff_,ff_,ff_,ff_,ff_] rfl rfl (by kernel_rfl) (fun _ _ _ h => h) (Or.inl ⟨by rfl, ?_⟩) hHeld ?_ ?_
     rotate_left
     ·rintro w' ⟨s0, s1, s2, s3, s4, s5, s6⟩
      go_simp
      with_reducible rfl
     rotate_left
     ·simp only [Act.put, List.setIfInBounds_toArray, List.set_cons_zero, List.set_cons_succ, i64_w, i32_w]
      rfl
     refine one_ (i := 9) (N := some 109) #[tt_,tt_,tt_,tt_,tt_,tt_,tt_,tt_,tt_,tt_,tt_,tt_,ff_,ff_,ff_,ff_,ff_,ff_,ff_,ff_,ff_] rfl rfl (by kernel_rfl) (by decide) (fun K hK => ?_)
     refine goes_ Try.func14 (by kernel_rfl) rfl #[.pointer (some ⟨g, 0, none⟩), .int .u32 (q : Int), .agg #[.int .u32 (pj.X : Int), .int .u32 (pj.B : Int), .bool pj.H]] (by rfl) rfl rfl (by (try simp only [List.map_toArray, List.map_cons, List.map_nil]); rfl) ?_
     with_reducible refine (HK2.out _ pj false HPJ.out (below_step BW.out B_1.out) rfl).mono ?_
     rintro e w2 ⟨rfl, hb⟩
     refine ⟨_, rfl, ?_⟩
     have B_2 := Aside0.mk (below_step B_1.out hb)
     have P_2 := Aside0.mk (blk_below P_1.out hb)
     clear P_1
     clear hb
     refine hK.out _ _ ⟨HCX.out _ (below_step BW.out B_2.out), pw_cell_below B_2.out HP0.out, pw_cell_below B_2.out HP1.out, pw_cell_below B_2.out HP2.out, (blk_cell P_2.out 0).trans rfl, (blk_cell P_2.out 1).trans rfl, (blk_cell P_2.out 2).trans rfl⟩ (fun hHeld => ?_)
     clear hK K
     refine norm_ (a' := ?_) ?_ ?_
     rotate_left
     ·show Act.put _ (some 109) _ = _
      simp only [Act.put, List.setIfInBounds_toArray, List.set_cons_zero, List.set_cons_succ, i64_w, i32_w]
      rfl
     refine pure_ (i := 12) (N := some 112) (v := ?_) (a' := ?_) #[tt_,tt_,tt_,tt_,tt_,tt_,tt_,tt_,tt_,tt_,tt_,tt_,tt_,ff_,ff_,ff_,ff_,ff_,ff_,ff_,ff_] rfl rfl (by kernel_rfl) (fun _ _ _ h => h) (Or.inl ⟨by rfl, ?_⟩) ?_ ?_
     rotate_left
     ·intro w'
      go_simp
      with_reducible rfl
     rotate_left
     ·simp only [Act.put, List.setIfInBounds_toArray, List.set_cons_zero, List.set_cons_succ, i64_w, i32_w]
      rfl
     refine pure_ (i := 13) (N := some 113) (v := undef) (a' := ?_) #[tt_,tt_,tt_,tt_,tt_,tt_,tt_,tt_,tt_,tt_,tt_,tt_,tt_,tt_,ff_,ff_,ff_,ff_,ff_,ff_,ff_] rfl rfl (by kernel_rfl) (fun _ _ _ h => h) (Or.inr ⟨by rfl, rfl⟩) ?_ ?_
     rotate_left
     ·simp only [Act.put, List.setIfInBounds_toArray, List.set_cons_zero, List.set_cons_succ, i64_w, i32_w]
      rfl
     refine pure_ (i := 14) (N := some 114) (v := undef) (a' := ?_) #[tt_,tt_,tt_,tt_,tt_,tt_,tt_,tt_,tt_,tt_,tt_,tt_,tt_,tt_,tt_,ff_,ff_,ff_,ff_,ff_,ff_] rfl rfl (by kernel_rfl) (fun _ _ _ h => h) (Or.inr ⟨by rfl, rfl⟩) ?_ ?_
     rotate_left
     ·simp only [Act.put, List.setIfInBounds_toArray, List.set_cons_zero, List.set_cons_succ, i64_w, i32_w]
      rfl
     refine pure_ (i := 15) (N := some 115) (v := undef) (a' := ?_) #[tt_,tt_,tt_,tt_,tt_,tt_,tt_,tt_,tt_,tt_,tt_,tt_,tt_,tt_,tt_,tt_,ff_,ff_,ff_,ff_,ff_] rfl rfl (by kernel_rfl) (fun _ _ _ h => h) (Or.inr ⟨by rfl, rfl⟩) ?_ ?_
     rotate_left
     ·simp only [Act.put, List.setIfInBounds_toArray, List.set_cons_zero, List.set_cons_succ, i64_w, i32_w]
      rfl
     refine pure_ (i := 16) (N := some 116) (v := undef) (a' := ?_) #[tt_,tt_,tt_,tt_,tt_,tt_,tt_,tt_,tt_,tt_,tt_,tt_,tt_,tt_,tt_,tt_,tt_,ff_,ff_,ff_,ff_] rfl rfl (by kernel_rfl) (fun _ _ _ h => h) (Or.inr ⟨by rfl, rfl⟩) ?_ ?_
     rotate_left
     ·simp only [Act.put, List.setIfInBounds_toArray, List.set_cons_zero, List.set_cons_succ, i64_w, i32_w]
      rfl
     refine pure_ (i := 17) (N := some 117) (v := undef) (a' := ?_) #[tt_,tt_,tt_,tt_,tt_,tt_,tt_,tt_,tt_,tt_,tt_,tt_,tt_,tt_,tt_,tt_,tt_,tt_,ff_,ff_,ff_] rfl rfl (by kernel_rfl) (fun _ _ _ h => h) (Or.inr ⟨by rfl, rfl⟩) ?_ ?_
     rotate_left
     ·simp only [Act.put, List.setIfInBounds_toArray, List.set_cons_zero, List.set_cons_succ, i64_w, i32_w]
      rfl
     refine pure_ (i := 18) (N := some 118) (v := undef) (a' := ?_) #[tt_,tt_,tt_,tt_,tt_,tt_,tt_,tt_,tt_,tt_,tt_,tt_,tt_,tt_,tt_,tt_,tt_,tt_,tt_,ff_,ff_] rfl rfl (by kernel_rfl) (fun _ _ _ h => h) (Or.inr ⟨by rfl, rfl⟩) ?_ ?_
     rotate_left
     ·simp only [Act.put, List.setIfInBounds_toArray, List.set_cons_zero, List.set_cons_succ, i64_w, i32_w]
      rfl
     refine pure_ (i := 19) (N := some 119) (v := ?_) (a' := ?_) #[tt_,tt_,tt_,tt_,tt_,tt_,tt_,tt_,tt_,tt_,tt_,tt_,tt_,tt_,tt_,tt_,tt_,tt_,tt_,tt_,ff_] rfl rfl (by kernel_rfl) (fun _ _ _ h => h) (Or.inl ⟨by rfl, ?_⟩) ?_ ?_
     rotate_left
     ·intro w'
      go_simp
      with_reducible rfl
     rotate_left
     ·simp only [Act.put, List.setIfInBounds_toArray, List.set_cons_zero, List.set_cons_succ, i64_w, i32_w]
      rfl
     refine pure_ (i := 20) (N := some 120) (v := ?_) (a' := ?_) #[tt_,tt_,tt_,tt_,tt_,tt_,tt_,tt_,tt_,tt_,tt_,tt_,tt_,tt_,tt_,tt_,tt_,tt_,tt_,tt_,tt_] rfl rfl (by kernel_rfl) (fun _ _ _ h => h) (Or.inl ⟨by rfl, ?_⟩) ?_ ?_
     rotate_left
     ·intro w'
      go_simp
      with_reducible rfl
     rotate_left
     ·simp only [Act.put, List.setIfInBounds_toArray, List.set_cons_zero, List.set_cons_succ, i64_w, i32_w]
      rfl
     refine done_ (by kernel_rfl) ?_
     go_wp2
     go_roundg (k - (j + 1))
     case measure => have := HJN.out; omega
     case rel => exact ⟨j + 1, by first | rfl | (congr 1; omega), HJN.out, by omega, ⟨below_step HBJ.out B_2.out⟩⟩
    ·obtain rfl : j = k := by omega
     have dd : decide ((j : Int) < (j : Int)) = false := decide_eq_false (by omega)
     have P_0 := Aside0.mk (blk_below HP12.out HBJ.out)
     have HB3 : Aside0 (Below W1.heap.size W1 wr) := ⟨below_step HB12.out HBJ.out⟩
     clear hs hjn HBJ
     generalize wr = W3 at *
     have B_0 : Aside0 (Below W3.heap.size W3 W3) := ⟨Below.refl _ _⟩
     obtain ⟨x1, hx1⟩ : ∃ x, (pX + 1) % 4294967296 = x := ⟨_, rfl⟩
     obtain ⟨b1, hb1⟩ : ∃ x, (pB + 1) % 4294967296 = x := ⟨_, rfl⟩
     obtain ⟨h1, hh1⟩ : ∃ x, (!pH) = x := ⟨_, rfl⟩
     have wx : IntKind.u32.wrap ((pX : Int) + 1) = (x1 : Int) := by rw [IntKind.wrap_u32]; omega
     have wb : IntKind.u32.wrap ((pB : Int) + 1) = (b1 : Int) := by rw [IntKind.wrap_u32]; omega
     have H1X : Aside0 (x1 < 4294967296) := ⟨by omega⟩
     have hxb := HX1.out
     have N1 : Aside0 (false = false) := ⟨rfl⟩
     have N2 : Aside0 (false = false) := ⟨rfl⟩
     have N3 : Aside0 (false = false) := ⟨rfl⟩
     clear hx1 hb1 hxb
     go_wp2_with (first | ((with_reducible refine gate_dst (N := 121) rfl ?_); refine loadg32 rfl ?hw g12 _ _ _ rfl P_0.out ?_; (case hw => rfl)) | ((with_reducible refine gate_dst (N := 17) rfl ?_); refine box_event ?hg (N := 17) ?hd (cs := #[.int .u32 0, .int .u32 0, .bool false]) (t := 32) ?hr ?_; (case hd => rfl); (case hg => rfl); (case hr => first | (go_simp; done) | (go_simp; rfl)); intro g17 hg_ w1 hm_ hb_; have NEPN := Aside0.mk (show g12 ≠ g17 by rw [hg_]; have := blk_lt P_0.out; omega); have GN := Aside0.mk (show W3.heap.size ≤ g17 by rw [hg_]; exact B_0.out.size); have B_1 := Aside0.mk (below_step B_0.out hb_); have P_1 := Aside0.mk (blk_below P_0.out hb_); clear P_0; have N_1 := Aside0.mk (hm_); have cN0 := (blk_cell N_1.out 0).trans rfl; have cN1 := (blk_cell N_1.out 1).trans rfl; have cN2 := (blk_cell N_1.out 2).trans rfl; clear hm_ hb_ hg_) | ((with_reducible refine gate_store (p := 17) rfl ?_); refine store_event rfl rfl rfl g17 #[.int .u32 (pX : Int), .int .u32 (pB : Int), .bool pH] _ 32 rfl rfl N_1.out size32 rfl (by simp [Value.oneCell']) ?_; intro w2 hm_ hst_ hbl_; clear cN0 cN1 cN2; have B_2 := Aside0.mk (B_1.out.trans (hbl_ _ GN.out)); have P_2 := Aside0.mk ((hst_ g12 NEPN.out).trans P_1.out); have N_2 := Aside0.mk (hm_); clear P_1 N_1 hm_ hst_ hbl_; have cN0 := (blk_cell N_2.out 0).trans rfl; have cN1 := (blk_cell N_2.out 1).trans rfl; have cN2 := (blk_cell N_2.out 2).trans rfl) | ((with_reducible refine gate_store (p := 125) rfl ?_); refine storec_event rfl rfl rfl g17 0 (.int .u32 (x1 : Int)) _ _ rfl rfl rfl N_2.out size30 (by simp) rfl ?_; intro w3 hm_ hst_ hbl_; clear cN0 cN1 cN2; have B_3 := Aside0.mk (B_2.out.trans (hbl_ _ GN.out)); have P_3 := Aside0.mk ((hst_ g12 NEPN.out).trans P_2.out); have N_3 := Aside0.mk (hm_); clear P_2 N_2 hm_ hst_ hbl_; have cN0 := (blk_cell N_3.out 0).trans rfl; have cN1 := (blk_cell N_3.out 1).trans rfl; have cN2 := (blk_cell N_3.out 2).trans rfl) | ((with_reducible refine gate_dst (N := 126) rfl ?_); refine loadg32 rfl ?hw g12 _ _ _ rfl P_3.out ?_; (case hw => rfl)) | ((with_reducible refine gate_dst (N := 18) rfl ?_); refine box_event ?hg (N := 18) ?hd (cs := #[.int .u32 0, .int .u32 0, .bool false]) (t := 32) ?hr ?_; (case hd => rfl); (case hg => rfl); (case hr => first | (go_simp; done) | (go_simp; rfl)); intro g18 hg_ w4 hm_ hb_; have NEPO := Aside0.mk (show g12 ≠ g18 by rw [hg_]; have := blk_lt P_3.out; omega); have NENO := Aside0.mk (show g17 ≠ g18 by rw [hg_]; have := blk_lt N_3.out; omega); have GO := Aside0.mk (show W3.heap.size ≤ g18 by rw [hg_]; exact B_3.out.size); clear cN0 cN1 cN2; have B_4 := Aside0.mk (below_step B_3.out hb_); have P_4 := Aside0.mk (blk_below P_3.out hb_); have N_4 := Aside0.mk (blk_below N_3.out hb_); clear P_3 N_3; have O_4 := Aside0.mk (hm_); have cN0 := (blk_cell N_4.out 0).trans rfl; have cN1 := (blk_cell N_4.out 1).trans rfl; have cN2 := (blk_cell N_4.out 2).trans rfl; have cO0 := (blk_cell O_4.out 0).trans rfl; have cO1 := (blk_cell O_4.out 1).trans rfl; have cO2 := (blk_cell O_4.out 2).trans rfl; clear hm_ hb_ hg_) | ((with_reducible refine gate_store (p := 18) rfl ?_); refine store_event rfl rfl rfl g18 #[.int .u32 (pX : Int), .int .u32 (pB : Int), .bool pH] _ 32 rfl rfl O_4.out size32 rfl (by simp [Value.oneCell']) ?_; intro w5 hm_ hst_ hbl_; clear cN0 cN1 cN2 cO0 cO1 cO2; have B_5 := Aside0.mk (B_4.out.trans (hbl_ _ GO.out)); have P_5 := Aside0.mk ((hst_ g12 NEPO.out).trans P_4.out); have N_5 := Aside0.mk ((hst_ g17 NENO.out).trans N_4.out); have O_5 := Aside0.mk (hm_); clear P_4 N_4 O_4 hm_ hst_ hbl_; have cN0 := (blk_cell N_5.out 0).trans rfl; have cN1 := (blk_cell N_5.out 1).trans rfl; have cN2 := (blk_cell N_5.out 2).trans rfl; have cO0 := (blk_cell O_5.out 0).trans rfl; have cO1 := (blk_cell O_5.out 1).trans rfl; have cO2 := (blk_cell O_5.out 2).trans rfl) | ((with_reducible refine gate_store (p := 130) rfl ?_); refine storec_event rfl rfl rfl g18 1 (.int .u32 (b1 : Int)) _ _ rfl rfl rfl O_5.out size30 (by simp) rfl ?_; intro w6 hm_ hst_ hbl_; clear cN0 cN1 cN2 cO0 cO1 cO2; have B_6 := Aside0.mk (B_5.out.trans (hbl_ _ GO.out)); have P_6 := Aside0.mk ((hst_ g12 NEPO.out).trans P_5.out); have N_6 := Aside0.mk ((hst_ g17 NENO.out).trans N_5.out); have O_6 := Aside0.mk (hm_); clear P_5 N_5 O_5 hm_ hst_ hbl_; have cN0 := (blk_cell N_6.out 0).trans rfl; have cN1 := (blk_cell N_6.out 1).trans rfl; have cN2 := (blk_cell N_6.out 2).trans rfl; have cO0 := (blk_cell O_6.out 0).trans rfl; have cO1 := (blk_cell O_6.out 1).trans rfl; have cO2 := (blk_cell O_6.out 2).trans rfl) | ((with_reducible refine gate_dst (N := 131) rfl ?_); refine loadg32 rfl ?hw g12 _ _ _ rfl P_6.out ?_; (case hw => rfl)) | ((with_reducible refine gate_dst (N := 19) rfl ?_); refine box_event ?hg (N := 19) ?hd (cs := #[.int .u32 0, .int .u32 0, .bool false]) (t := 32) ?hr ?_; (case hd => rfl); (case hg => rfl); (case hr => first | (go_simp; done) | (go_simp; rfl)); intro g19 hg_ w7 hm_ hb_; have NEPH := Aside0.mk (show g12 ≠ g19 by rw [hg_]; have := blk_lt P_6.out; omega); have NENH := Aside0.mk (show g17 ≠ g19 by rw [hg_]; have := blk_lt N_6.out; omega); have NEOH := Aside0.mk (show g18 ≠ g19 by rw [hg_]; have := blk_lt O_6.out; omega); have GH := Aside0.mk (show W3.heap.size ≤ g19 by rw [hg_]; exact B_6.out.size); clear cN0 cN1 cN2 cO0 cO1 cO2; have B_7 := Aside0.mk (below_step B_6.out hb_); have P_7 := Aside0.mk (blk_below P_6.out hb_); have N_7 := Aside0.mk (blk_below N_6.out hb_); have O_7 := Aside0.mk (blk_below O_6.out hb_); clear P_6 N_6 O_6; have H_7 := Aside0.mk (hm_); have cN0 := (blk_cell N_7.out 0).trans rfl; have cN1 := (blk_cell N_7.out 1).trans rfl; have cN2 := (blk_cell N_7.out 2).trans rfl; have cO0 := (blk_cell O_7.out 0).trans rfl; have cO1 := (blk_cell O_7.out 1).trans rfl; have cO2 := (blk_cell O_7.out 2).trans rfl; have cH0 := (blk_cell H_7.out 0).trans rfl; have cH1 := (blk_cell H_7.out 1).trans rfl; have cH2 := (blk_cell H_7.out 2).trans rfl; clear hm_ hb_ hg_) | ((with_reducible refine gate_store (p := 19) rfl ?_); refine store_event rfl rfl rfl g19 #[.int .u32 (pX : Int), .int .u32 (pB : Int), .bool pH] _ 32 rfl rfl H_7.out size32 rfl (by simp [Value.oneCell']) ?_; intro w8 hm_ hst_ hbl_; clear cN0 cN1 cN2 cO0 cO1 cO2 cH0 cH1 cH2; have B_8 := Aside0.mk (B_7.out.trans (hbl_ _ GH.out)); have P_8 := Aside0.mk ((hst_ g12 NEPH.out).trans P_7.out); have N_8 := Aside0.mk ((hst_ g17 NENH.out).trans N_7.out); have O_8 := Aside0.mk ((hst_ g18 NEOH.out).trans O_7.out); have H_8 := Aside0.mk (hm_); clear P_7 N_7 O_7 H_7 hm_ hst_ hbl_; have cN0 := (blk_cell N_8.out 0).trans rfl; have cN1 := (blk_cell N_8.out 1).trans rfl; have cN2 := (blk_cell N_8.out 2).trans rfl; have cO0 := (blk_cell O_8.out 0).trans rfl; have cO1 := (blk_cell O_8.out 1).trans rfl; have cO2 := (blk_cell O_8.out 2).trans rfl; have cH0 := (blk_cell H_8.out 0).trans rfl; have cH1 := (blk_cell H_8.out 1).trans rfl; have cH2 := (blk_cell H_8.out 2).trans rfl) | ((with_reducible refine gate_store (p := 135) rfl ?_); refine storec_event rfl rfl rfl g19 2 (.bool h1) _ _ rfl rfl rfl H_8.out size4 (by simp) rfl ?_; intro w9 hm_ hst_ hbl_; clear cN0 cN1 cN2 cO0 cO1 cO2 cH0 cH1 cH2; have B_9 := Aside0.mk (B_8.out.trans (hbl_ _ GH.out)); have P_9 := Aside0.mk ((hst_ g12 NEPH.out).trans P_8.out); have N_9 := Aside0.mk ((hst_ g17 NENH.out).trans N_8.out); have O_9 := Aside0.mk ((hst_ g18 NEOH.out).trans O_8.out); have H_9 := Aside0.mk (hm_); clear P_8 N_8 O_8 H_8 hm_ hst_ hbl_; have cN0 := (blk_cell N_9.out 0).trans rfl; have cN1 := (blk_cell N_9.out 1).trans rfl; have cN2 := (blk_cell N_9.out 2).trans rfl; have cO0 := (blk_cell O_9.out 0).trans rfl; have cO1 := (blk_cell O_9.out 1).trans rfl; have cO2 := (blk_cell O_9.out 2).trans rfl; have cH0 := (blk_cell H_9.out 0).trans rfl; have cH1 := (blk_cell H_9.out 1).trans rfl; have cH2 := (blk_cell H_9.out 2).trans rfl))
     clear cN0 cN1 cN2 cO0 cO1 cO2 cH0 cH1 cH2
     have B_10 : Aside0 (Below W3.heap.size W3 w9.drew) := ⟨below_drew B_9.out⟩
     have P_10 := Aside0.mk (blk_drew P_9.out)
     have N_10 := Aside0.mk (blk_drew N_9.out)
     have O_10 := Aside0.mk (blk_drew O_9.out)
     have H_10 := Aside0.mk (blk_drew H_9.out)
     clear B_9 P_9 N_9 O_9 H_9
     refine start_ (n := 25) (S := fun w' => w'.cell? (ax.add i) = some (.int .u32 (q : Int)) ∧ w'.cell? ⟨g17, 0, none⟩ = some (.int .u32 (x1 : Int)) ∧ w'.cell? ⟨g17, 1, none⟩ = some (.int .u32 (pB : Int)) ∧ w'.cell? ⟨g17, 2, none⟩ = some (.bool pH) ∧ w'.cell? ⟨g18, 0, none⟩ = some (.int .u32 (pX : Int)) ∧ w'.cell? ⟨g18, 1, none⟩ = some (.int .u32 (b1 : Int)) ∧ w'.cell? ⟨g18, 2, none⟩ = some (.bool pH) ∧ w'.cell? ⟨g19, 0, none⟩ = some (.int .u32 (pX : Int)) ∧ w'.cell? ⟨g19, 1, none⟩ = some (.int .u32 (pB : Int)) ∧ w'.cell? ⟨g19, 2, none⟩ = some (.bool h1)) (ds := []) #[ff_,ff_,ff_,ff_,ff_,ff_,ff_,ff_,ff_,ff_,ff_,ff_,ff_,ff_,ff_,ff_,ff_,ff_,ff_,ff_,ff_,ff_,ff_,ff_,ff_] (by kernel_rfl) rfl rfl ⟨HCX.out _ (below_step HB3.out B_10.out), (blk_cell N_10.out 0).trans rfl, (blk_cell N_10.out 1).trans rfl, (blk_cell N_10.out 2).trans rfl, (blk_cell O_10.out 0).trans rfl, (blk_cell O_10.out 1).trans rfl, (blk_cell O_10.out 2).trans rfl, (blk_cell H_10.out 0).trans rfl, (blk_cell H_10.out 1).trans rfl, (blk_cell H_10.out 2).trans rfl⟩ (fun hHeld => ?_)
     generalize w9.drew = w10 at *
     refine pure_ (i := 0) (N := some 136) (v := ?_) (a' := ?_) #[tt_,ff_,ff_,ff_,ff_,ff_,ff_,ff_,ff_,ff_,ff_,ff_,ff_,ff_,ff_,ff_,ff_,ff_,ff_,ff_,ff_,ff_,ff_,ff_,ff_] rfl rfl (by kernel_rfl) (fun _ _ _ h => h) (Or.inl ⟨by rfl, ?_⟩) ?_ ?_
     rotate_left
     ·intro w'
      go_simp
      with_reducible rfl
     rotate_left
     ·simp only [Act.put, List.setIfInBounds_toArray, List.set_cons_zero, List.set_cons_succ, i64_w, i32_w]
      rfl
     refine pure_ (i := 1) (N := some 137) (v := ?_) (a' := ?_) #[tt_,tt_,ff_,ff_,ff_,ff_,ff_,ff_,ff_,ff_,ff_,ff_,ff_,ff_,ff_,ff_,ff_,ff_,ff_,ff_,ff_,ff_,ff_,ff_,ff_] rfl rfl (by kernel_rfl) (fun _ _ _ h => h) (Or.inl ⟨by rfl, ?_⟩) ?_ ?_
     rotate_left
     ·intro w'
      go_simp
      with_reducible rfl
     rotate_left
     ·simp only [Act.put, List.setIfInBounds_toArray, List.set_cons_zero, List.set_cons_succ, i64_w, i32_w]
      rfl
     refine pure_ (i := 2) (N := some 138) (v := ?_) (a' := ?_) #[tt_,tt_,tt_,ff_,ff_,ff_,ff_,ff_,ff_,ff_,ff_,ff_,ff_,ff_,ff_,ff_,ff_,ff_,ff_,ff_,ff_,ff_,ff_,ff_,ff_] rfl rfl (by kernel_rfl) (fun _ _ _ h => h) (Or.inl ⟨by rfl, ?_⟩) ?_ ?_
     rotate_left
     ·intro w'
      go_simp
      with_reducible rfl
     rotate_left
     ·simp only [Act.put, List.setIfInBounds_toArray, List.set_cons_zero, List.set_cons_succ, i64_w, i32_w]
      rfl
     refine pure_ (i := 3) (N := some 139) (v := ?_) (a' := ?_) #[tt_,tt_,tt_,tt_,ff_,ff_,ff_,ff_,ff_,ff_,ff_,ff_,ff_,ff_,ff_,ff_,ff_,ff_,ff_,ff_,ff_,ff_,ff_,ff_,ff_] rfl rfl (by kernel_rfl) (fun _ _ _ h => h) (Or.inl ⟨by rfl, ?_⟩) ?_ ?_
     rotate_left
     ·intro w'
      go_simp
      with_reducible rfl
     rotate_left
     ·simp only [Act.put, List.setIfInBounds_toArray, List.set_cons_zero, List.set_cons_succ, i64_w, i32_w]
      rfl
     refine take_ (i := 4) (N := some 140) (v := ?_) (a' := ?_) #[tt_,tt_,tt_,tt_,tt_,ff_,ff_,ff_,ff_,ff_,ff_,ff_,ff_,ff_,ff_,ff_,ff_,ff_,ff_,ff_,ff_,ff_,ff_,ff_,ff_] rfl rfl (by kernel_rfl) (fun _ _ _ h => h) (Or.inl ⟨by rfl, ?_⟩) hHeld ?_ ?_
     rotate_left
     ·rintro w' ⟨s0, s1, s2, s3, s4, s5, s6, s7, s8, s9⟩
      go_simp
      with_reducible rfl
     rotate_left
     ·simp only [Act.put, List.setIfInBounds_toArray, List.set_cons_zero, List.set_cons_succ, i64_w, i32_w]
      rfl
     refine take_ (i := 5) (N := some 141) (v := ?_) (a' := ?_) #[tt_,tt_,tt_,tt_,tt_,tt_,ff_,ff_,ff_,ff_,ff_,ff_,ff_,ff_,ff_,ff_,ff_,ff_,ff_,ff_,ff_,ff_,ff_,ff_,ff_] rfl rfl (by kernel_rfl) (fun _ _ _ h => h) (Or.inl ⟨by rfl, ?_⟩) hHeld ?_ ?_
     rotate_left
     ·rintro w' ⟨s0, s1, s2, s3, s4, s5, s6, s7, s8, s9⟩
      go_simp
      with_reducible rfl
     rotate_left
     ·simp only [Act.put, List.setIfInBounds_toArray, List.set_cons_zero, List.set_cons_succ, i64_w, i32_w]
      rfl
     refine one_ (i := 6) (N := some 142) #[tt_,tt_,tt_,tt_,tt_,tt_,tt_,ff_,ff_,ff_,ff_,ff_,ff_,ff_,ff_,ff_,ff_,ff_,ff_,ff_,ff_,ff_,ff_,ff_,ff_] rfl rfl (by kernel_rfl) (by decide) (fun K hK => ?_)
     refine goes_ Try.func14 (by kernel_rfl) rfl #[.pointer (some ⟨g, 0, none⟩), .int .u32 (q : Int), .agg #[.int .u32 (x1 : Int), .int .u32 (pB : Int), .bool pH]] (by rfl) rfl rfl (by (try simp only [List.map_toArray, List.map_cons, List.map_nil]); rfl) ?_
     refine (HK2.out _ ⟨x1, pB, pH⟩ false H1X.out (below_step HB3.out B_10.out) rfl).mono ?_
     rintro e w11 ⟨rfl, hb⟩
     refine ⟨_, rfl, ?_⟩
     have B_11 := Aside0.mk (below_step B_10.out hb)
     have P_11 := Aside0.mk (blk_below P_10.out hb)
     have N_11 := Aside0.mk (blk_below N_10.out hb)
     have O_11 := Aside0.mk (blk_below O_10.out hb)
     have H_11 := Aside0.mk (blk_below H_10.out hb)
     clear P_10 N_10 O_10 H_10
     clear hb
     refine hK.out _ _ ⟨HCX.out _ (below_step HB3.out B_11.out), (blk_cell N_11.out 0).trans rfl, (blk_cell N_11.out 1).trans rfl, (blk_cell N_11.out 2).trans rfl, (blk_cell O_11.out 0).trans rfl, (blk_cell O_11.out 1).trans rfl, (blk_cell O_11.out 2).trans rfl, (blk_cell H_11.out 0).trans rfl, (blk_cell H_11.out 1).trans rfl, (blk_cell H_11.out 2).trans rfl⟩ (fun hHeld => ?_)
     clear hK K
     refine norm_ (a' := ?_) ?_ ?_
     rotate_left
     ·show Act.put _ (some 142) _ = _
      simp only [Act.put, List.setIfInBounds_toArray, List.set_cons_zero, List.set_cons_succ, i64_w, i32_w]
      rfl
     refine pure_ (i := 7) (N := some 143) (v := ?_) (a' := ?_) #[tt_,tt_,tt_,tt_,tt_,tt_,tt_,tt_,ff_,ff_,ff_,ff_,ff_,ff_,ff_,ff_,ff_,ff_,ff_,ff_,ff_,ff_,ff_,ff_,ff_] rfl rfl (by kernel_rfl) (fun _ _ _ h => h) (Or.inl ⟨by rfl, ?_⟩) ?_ ?_
     rotate_left
     ·intro w'
      go_simp
      with_reducible rfl
     rotate_left
     ·simp only [Act.put, List.setIfInBounds_toArray, List.set_cons_zero, List.set_cons_succ, i64_w, i32_w]
      rfl
     refine pure_ (i := 8) (N := some 144) (v := ?_) (a' := ?_) #[tt_,tt_,tt_,tt_,tt_,tt_,tt_,tt_,tt_,ff_,ff_,ff_,ff_,ff_,ff_,ff_,ff_,ff_,ff_,ff_,ff_,ff_,ff_,ff_,ff_] rfl rfl (by kernel_rfl) (fun _ _ _ h => h) (Or.inl ⟨by rfl, ?_⟩) ?_ ?_
     rotate_left
     ·intro w'
      go_simp
      with_reducible rfl
     rotate_left
     ·simp only [Act.put, List.setIfInBounds_toArray, List.set_cons_zero, List.set_cons_succ, i64_w, i32_w]
      rfl
     refine pure_ (i := 9) (N := some 145) (v := ?_) (a' := ?_) #[tt_,tt_,tt_,tt_,tt_,tt_,tt_,tt_,tt_,tt_,ff_,ff_,ff_,ff_,ff_,ff_,ff_,ff_,ff_,ff_,ff_,ff_,ff_,ff_,ff_] rfl rfl (by kernel_rfl) (fun _ _ _ h => h) (Or.inl ⟨by rfl, ?_⟩) ?_ ?_
     rotate_left
     ·intro w'
      go_simp
      with_reducible rfl
     rotate_left
     ·simp only [Act.put, List.setIfInBounds_toArray, List.set_cons_zero, List.set_cons_succ, i64_w, i32_w]
      rfl
     refine pure_ (i := 10) (N := some 146) (v := ?_) (a' := ?_) #[tt_,tt_,tt_,tt_,tt_,tt_,tt_,tt_,tt_,tt_,tt_,ff_,ff_,ff_,ff_,ff_,ff_,ff_,ff_,ff_,ff_,ff_,ff_,ff_,ff_] rfl rfl (by kernel_rfl) (fun _ _ _ h => h) (Or.inl ⟨by rfl, ?_⟩) ?_ ?_
     rotate_left
     ·intro w'
      go_simp
      with_reducible rfl
     rotate_left
     ·simp only [Act.put, List.setIfInBounds_toArray, List.set_cons_zero, List.set_cons_succ, i64_w, i32_w]
      rfl
     refine pure_ (i := 11) (N := some 147) (v := ?_) (a' := ?_) #[tt_,tt_,tt_,tt_,tt_,tt_,tt_,tt_,tt_,tt_,tt_,tt_,ff_,ff_,ff_,ff_,ff_,ff_,ff_,ff_,ff_,ff_,ff_,ff_,ff_] rfl rfl (by kernel_rfl) (fun _ _ _ h => h) (Or.inl ⟨by rfl, ?_⟩) ?_ ?_
     rotate_left
     ·intro w'
      go_simp
      with_reducible rfl
     rotate_left
     ·simp only [Act.put, List.setIfInBounds_toArray, List.set_cons_zero, List.set_cons_succ, i64_w, i32_w]
      rfl
     refine take_ (i := 12) (N := some 148) (v := ?_) (a' := ?_) #[tt_,tt_,tt_,tt_,tt_,tt_,tt_,tt_,tt_,tt_,tt_,tt_,tt_,ff_,ff_,ff_,ff_,ff_,ff_,ff_,ff_,ff_,ff_,ff_,ff_] rfl rfl (by kernel_rfl) (fun _ _ _ h => h) (Or.inl ⟨by rfl, ?_⟩) hHeld ?_ ?_
     rotate_left
     ·rintro w' ⟨s0, s1, s2, s3, s4, s5, s6, s7, s8, s9⟩
      go_simp
      with_reducible rfl
     rotate_left
     ·simp only [Act.put, List.setIfInBounds_toArray, List.set_cons_zero, List.set_cons_succ, i64_w, i32_w]
      rfl
     refine take_ (i := 13) (N := some 149) (v := ?_) (a' := ?_) #[tt_,tt_,tt_,tt_,tt_,tt_,tt_,tt_,tt_,tt_,tt_,tt_,tt_,tt_,ff_,ff_,ff_,ff_,ff_,ff_,ff_,ff_,ff_,ff_,ff_] rfl rfl (by kernel_rfl) (fun _ _ _ h => h) (Or.inl ⟨by rfl, ?_⟩) hHeld ?_ ?_
     rotate_left
     ·rintro w' ⟨s0, s1, s2, s3, s4, s5, s6, s7, s8, s9⟩
      go_simp
      with_reducible rfl
     rotate_left
     ·simp only [Act.put, List.setIfInBounds_toArray, List.set_cons_zero, List.set_cons_succ, i64_w, i32_w]
      rfl
     refine one_ (i := 14) (N := some 150) #[tt_,tt_,tt_,tt_,tt_,tt_,tt_,tt_,tt_,tt_,tt_,tt_,tt_,tt_,tt_,ff_,ff_,ff_,ff_,ff_,ff_,ff_,ff_,ff_,ff_] rfl rfl (by kernel_rfl) (by decide) (fun K hK => ?_)
     refine goes_ Try.func14 (by kernel_rfl) rfl #[.pointer (some ⟨g, 0, none⟩), .int .u32 (q : Int), .agg #[.int .u32 (pX : Int), .int .u32 (b1 : Int), .bool pH]] (by rfl) rfl rfl (by (try simp only [List.map_toArray, List.map_cons, List.map_nil]); rfl) ?_
     refine (HK2.out _ ⟨pX, b1, pH⟩ false HX1.out.1 (below_step HB3.out B_11.out) rfl).mono ?_
     rintro e w12 ⟨rfl, hb⟩
     refine ⟨_, rfl, ?_⟩
     have B_12 := Aside0.mk (below_step B_11.out hb)
     have P_12 := Aside0.mk (blk_below P_11.out hb)
     have N_12 := Aside0.mk (blk_below N_11.out hb)
     have O_12 := Aside0.mk (blk_below O_11.out hb)
     have H_12 := Aside0.mk (blk_below H_11.out hb)
     clear P_11 N_11 O_11 H_11
     clear hb
     refine hK.out _ _ ⟨HCX.out _ (below_step HB3.out B_12.out), (blk_cell N_12.out 0).trans rfl, (blk_cell N_12.out 1).trans rfl, (blk_cell N_12.out 2).trans rfl, (blk_cell O_12.out 0).trans rfl, (blk_cell O_12.out 1).trans rfl, (blk_cell O_12.out 2).trans rfl, (blk_cell H_12.out 0).trans rfl, (blk_cell H_12.out 1).trans rfl, (blk_cell H_12.out 2).trans rfl⟩ (fun hHeld => ?_)
     clear hK K
     refine norm_ (a' := ?_) ?_ ?_
     rotate_left
     ·show Act.put _ (some 150) _ = _
      simp only [Act.put, List.setIfInBounds_toArray, List.set_cons_zero, List.set_cons_succ, i64_w, i32_w]
      rfl
     refine pure_ (i := 15) (N := some 151) (v := ?_) (a' := ?_) #[tt_,tt_,tt_,tt_,tt_,tt_,tt_,tt_,tt_,tt_,tt_,tt_,tt_,tt_,tt_,tt_,ff_,ff_,ff_,ff_,ff_,ff_,ff_,ff_,ff_] rfl rfl (by kernel_rfl) (fun _ _ _ h => h) (Or.inl ⟨by rfl, ?_⟩) ?_ ?_
     rotate_left
     ·intro w'
      go_simp
      with_reducible rfl
     rotate_left
     ·simp only [Act.put, List.setIfInBounds_toArray, List.set_cons_zero, List.set_cons_succ, i64_w, i32_w]
      rfl
     refine pure_ (i := 16) (N := some 152) (v := ?_) (a' := ?_) #[tt_,tt_,tt_,tt_,tt_,tt_,tt_,tt_,tt_,tt_,tt_,tt_,tt_,tt_,tt_,tt_,tt_,ff_,ff_,ff_,ff_,ff_,ff_,ff_,ff_] rfl rfl (by kernel_rfl) (fun _ _ _ h => h) (Or.inl ⟨by rfl, ?_⟩) ?_ ?_
     rotate_left
     ·intro w'
      go_simp
      with_reducible rfl
     rotate_left
     ·simp only [Act.put, List.setIfInBounds_toArray, List.set_cons_zero, List.set_cons_succ, i64_w, i32_w]
      rfl
     refine pure_ (i := 17) (N := some 153) (v := ?_) (a' := ?_) #[tt_,tt_,tt_,tt_,tt_,tt_,tt_,tt_,tt_,tt_,tt_,tt_,tt_,tt_,tt_,tt_,tt_,tt_,ff_,ff_,ff_,ff_,ff_,ff_,ff_] rfl rfl (by kernel_rfl) (fun _ _ _ h => h) (Or.inl ⟨by rfl, ?_⟩) ?_ ?_
     rotate_left
     ·intro w'
      go_simp
      with_reducible rfl
     rotate_left
     ·simp only [Act.put, List.setIfInBounds_toArray, List.set_cons_zero, List.set_cons_succ, i64_w, i32_w]
      rfl
     refine pure_ (i := 18) (N := some 154) (v := ?_) (a' := ?_) #[tt_,tt_,tt_,tt_,tt_,tt_,tt_,tt_,tt_,tt_,tt_,tt_,tt_,tt_,tt_,tt_,tt_,tt_,tt_,ff_,ff_,ff_,ff_,ff_,ff_] rfl rfl (by kernel_rfl) (fun _ _ _ h => h) (Or.inl ⟨by rfl, ?_⟩) ?_ ?_
     rotate_left
     ·intro w'
      go_simp
      with_reducible rfl
     rotate_left
     ·simp only [Act.put, List.setIfInBounds_toArray, List.set_cons_zero, List.set_cons_succ, i64_w, i32_w]
      rfl
     refine pure_ (i := 19) (N := some 155) (v := ?_) (a' := ?_) #[tt_,tt_,tt_,tt_,tt_,tt_,tt_,tt_,tt_,tt_,tt_,tt_,tt_,tt_,tt_,tt_,tt_,tt_,tt_,tt_,ff_,ff_,ff_,ff_,ff_] rfl rfl (by kernel_rfl) (fun _ _ _ h => h) (Or.inl ⟨by rfl, ?_⟩) ?_ ?_
     rotate_left
     ·intro w'
      go_simp
      with_reducible rfl
     rotate_left
     ·simp only [Act.put, List.setIfInBounds_toArray, List.set_cons_zero, List.set_cons_succ, i64_w, i32_w]
      rfl
     refine pure_ (i := 20) (N := some 156) (v := ?_) (a' := ?_) #[tt_,tt_,tt_,tt_,tt_,tt_,tt_,tt_,tt_,tt_,tt_,tt_,tt_,tt_,tt_,tt_,tt_,tt_,tt_,tt_,tt_,ff_,ff_,ff_,ff_] rfl rfl (by kernel_rfl) (fun _ _ _ h => h) (Or.inl ⟨by rfl, ?_⟩) ?_ ?_
     rotate_left
     ·intro w'
      go_simp
      with_reducible rfl
     rotate_left
     ·simp only [Act.put, List.setIfInBounds_toArray, List.set_cons_zero, List.set_cons_succ, i64_w, i32_w]
      rfl
     refine take_ (i := 21) (N := some 157) (v := ?_) (a' := ?_) #[tt_,tt_,tt_,tt_,tt_,tt_,tt_,tt_,tt_,tt_,tt_,tt_,tt_,tt_,tt_,tt_,tt_,tt_,tt_,tt_,tt_,tt_,ff_,ff_,ff_] rfl rfl (by kernel_rfl) (fun _ _ _ h => h) (Or.inl ⟨by rfl, ?_⟩) hHeld ?_ ?_
     rotate_left
     ·rintro w' ⟨s0, s1, s2, s3, s4, s5, s6, s7, s8, s9⟩
      go_simp
      with_reducible rfl
     rotate_left
     ·simp only [Act.put, List.setIfInBounds_toArray, List.set_cons_zero, List.set_cons_succ, i64_w, i32_w]
      rfl
     refine take_ (i := 22) (N := some 158) (v := ?_) (a' := ?_) #[tt_,tt_,tt_,tt_,tt_,tt_,tt_,tt_,tt_,tt_,tt_,tt_,tt_,tt_,tt_,tt_,tt_,tt_,tt_,tt_,tt_,tt_,tt_,ff_,ff_] rfl rfl (by kernel_rfl) (fun _ _ _ h => h) (Or.inl ⟨by rfl, ?_⟩) hHeld ?_ ?_
     rotate_left
     ·rintro w' ⟨s0, s1, s2, s3, s4, s5, s6, s7, s8, s9⟩
      go_simp
      with_reducible rfl
     rotate_left
     ·simp only [Act.put, List.setIfInBounds_toArray, List.set_cons_zero, List.set_cons_succ, i64_w, i32_w]
      rfl
     refine one_ (i := 23) (N := some 159) #[tt_,tt_,tt_,tt_,tt_,tt_,tt_,tt_,tt_,tt_,tt_,tt_,tt_,tt_,tt_,tt_,tt_,tt_,tt_,tt_,tt_,tt_,tt_,tt_,ff_] rfl rfl (by kernel_rfl) (by decide) (fun K hK => ?_)
     refine goes_ Try.func14 (by kernel_rfl) rfl #[.pointer (some ⟨g, 0, none⟩), .int .u32 (q : Int), .agg #[.int .u32 (pX : Int), .int .u32 (pB : Int), .bool h1]] (by rfl) rfl rfl (by (try simp only [List.map_toArray, List.map_cons, List.map_nil]); rfl) ?_
     refine (HK2.out _ ⟨pX, pB, h1⟩ false HX1.out.1 (below_step HB3.out B_12.out) rfl).mono ?_
     rintro e w13 ⟨rfl, hb⟩
     refine ⟨_, rfl, ?_⟩
     have B_13 := Aside0.mk (below_step B_12.out hb)
     have P_13 := Aside0.mk (blk_below P_12.out hb)
     have N_13 := Aside0.mk (blk_below N_12.out hb)
     have O_13 := Aside0.mk (blk_below O_12.out hb)
     have H_13 := Aside0.mk (blk_below H_12.out hb)
     clear P_12 N_12 O_12 H_12
     clear hb
     refine hK.out _ _ ⟨HCX.out _ (below_step HB3.out B_13.out), (blk_cell N_13.out 0).trans rfl, (blk_cell N_13.out 1).trans rfl, (blk_cell N_13.out 2).trans rfl, (blk_cell O_13.out 0).trans rfl, (blk_cell O_13.out 1).trans rfl, (blk_cell O_13.out 2).trans rfl, (blk_cell H_13.out 0).trans rfl, (blk_cell H_13.out 1).trans rfl, (blk_cell H_13.out 2).trans rfl⟩ (fun hHeld => ?_)
     clear hK K
     refine norm_ (a' := ?_) ?_ ?_
     rotate_left
     ·show Act.put _ (some 159) _ = _
      simp only [Act.put, List.setIfInBounds_toArray, List.set_cons_zero, List.set_cons_succ, i64_w, i32_w]
      rfl
     refine pure_ (i := 24) (N := some 160) (v := ?_) (a' := ?_) #[tt_,tt_,tt_,tt_,tt_,tt_,tt_,tt_,tt_,tt_,tt_,tt_,tt_,tt_,tt_,tt_,tt_,tt_,tt_,tt_,tt_,tt_,tt_,tt_,tt_] rfl rfl (by kernel_rfl) (fun _ _ _ h => h) (Or.inl ⟨by rfl, ?_⟩) ?_ ?_
     rotate_left
     ·intro w'
      go_simp
      with_reducible rfl
     rotate_left
     ·simp only [Act.put, List.setIfInBounds_toArray, List.set_cons_zero, List.set_cons_succ, i64_w, i32_w]
      rfl
     refine done_ (by kernel_rfl) ?_
     go_wp2
     go_roundg (m - (i + 1))
     case measure => have := HIN.out; omega
     case rel => exact ⟨i + 1, by first | rfl | (congr 1; omega), HIN.out, by omega, ⟨below_step HHB.out (below_step HB3.out B_13.out)⟩⟩

  case false =>
   have HK2 : Aside0 (∀ (W : World) (p : Pf) (b : Bool), p.X < 4294967296 → Below W1.heap.size W1 W → decide (p = (⟨pX, pB, pH⟩ : Pf)) = b → Calls Try.prog 14 #[.pointer (some ⟨g, 0, none⟩), .int .u32 (q : Int), .agg #[.int .u32 (p.X : Int), .int .u32 (p.B : Int), .bool p.H]] W fun e w' => e = .returned (.bool b) ∧ Below W.heap.size W w') := ⟨fun W p b hp hb hd => by
    have := HK1.out W p hp hb
    rw [Bool.not_false, Bool.true_and] at this
    rwa [hd] at this⟩
   clear HK1
   have t0' : ((er : Int) == 0) = true := t0
   clear t0
   go_loopg [16] k (fun kx s16 wr => ∃ j : Nat, s16 = .int .i64 (j : Int) ∧ j ≤ k ∧ k - j ≤ kx ∧ Aside0 (Below W2.heap.size W2 wr))
   case atStart => exact ⟨0, rfl, Nat.zero_le _, by omega, ⟨Below.refl _ _⟩⟩
   case round =>
    obtain ⟨j, rfl, j1, j2, HBJ⟩ := hrel
    have hs := HSK.out
    by_cases hjn : j < k
    ·have HJN := Aside0.mk hjn
     have HJP : Aside0 (j < ps.length) := ⟨by have := HKP.out; omega⟩
     have e1j : decide ((0 : Int) ≤ (j : Int)) = true := decide_eq_true (by omega)
     have e2j : decide ((j : Int) < (k : Int)) = true := decide_eq_true (by omega)
     have e5j : ((0 : Int) ≤ (j : Int)) = True := eq_true (by omega)
     have e6j : ((j : Int) < (k : Int)) = True := eq_true (by omega)
     have e7j : (j < k) = True := eq_true (by omega)
     have wi : IntKind.i64.wrap ((j : Int) + 1) = ((j + 1 : Nat) : Int) := by rw [show IntKind.i64.wrap ((j : Int) + 1) = wrap64 ((j : Int) + 1) from i64_w _, w64 (by omega) (by omega)]; omega
     have BW : Aside0 (Below W1.heap.size W1 wr) := ⟨below_step HB12.out HBJ.out⟩
     have BWW : Aside0 (Below w.heap.size w wr) := ⟨below_step (below_step B3.out HHB.out) BW.out⟩
     obtain ⟨ad3, rfl, p0, p1, p2⟩ := HPS.out wr BWW.out j HJP.out
     have HPJ := Aside0.mk (HPW.out _ (getD_mem HJP.out ⟨0, 0, false⟩)).1
     obtain ⟨pj, hpj⟩ : ∃ u, ps.getD j ⟨0, 0, false⟩ = u := ⟨_, rfl⟩
     rw [hpj] at p0 p1 p2 HPJ
     obtain ⟨bb, hbb⟩ : ∃ b, decide (pj = (⟨pX, pB, pH⟩ : Pf)) = b := ⟨_, rfl⟩
     have HBB := Aside0.mk hbb
     have qe : ∀ w : World, (binOp .eql 32 (.agg #[.int .u32 (pj.X : Int), .int .u32 (pj.B : Int), .bool pj.H]) (.agg #[.int .u32 (pX : Int), .int .u32 (pB : Int), .bool pH])).run Try.prog w = .ok (.bool bb) w := fun w => by
      have := HEQA.out pj w
      rwa [hbb] at this
     have tb : (bb != bb) = false := by cases bb <;> rfl
     have B_0 : Aside0 (Below wr.heap.size wr wr) := ⟨Below.refl _ _⟩
     have P_0 := Aside0.mk (blk_below HP12.out HBJ.out)
     have HP0 := Aside0.mk p0
     have HP1 := Aside0.mk p1
     have HP2 := Aside0.mk p2
     clear hs hjn hpj hbb p0 p1 p2
     go_wp2
     have B_1 : Aside0 (Below wr.heap.size wr wr.drew) := ⟨below_drew B_0.out⟩
     have P_1 := Aside0.mk (blk_drew P_0.out)
     clear B_0 P_0
     refine start_ (n := 21) (S := fun w' => w'.cell? (ax.add i) = some (.int .u32 (q : Int)) ∧ w'.cell? (ad3.add (j * 3)) = some (.int .u32 (pj.X : Int)) ∧ w'.cell? ⟨(ad3.add (j * 3)).block, (ad3.add (j * 3)).off + 1, none⟩ = some (.int .u32 (pj.B : Int)) ∧ w'.cell? ⟨(ad3.add (j * 3)).block, (ad3.add (j * 3)).off + 2, none⟩ = some (.bool pj.H) ∧ w'.cell? ⟨g12, 0, none⟩ = some (.int .u32 (pX : Int)) ∧ w'.cell? ⟨g12, 1, none⟩ = some (.int .u32 (pB : Int)) ∧ w'.cell? ⟨g12, 2, none⟩ = some (.bool pH)) (ds := []) #[ff_,ff_,ff_,ff_,ff_,ff_,ff_,ff_,ff_,ff_,ff_,ff_,ff_,ff_,ff_,ff_,ff_,ff_,ff_,ff_,ff_] (by kernel_rfl) rfl rfl ⟨HCX.out _ (below_step BW.out B_1.out), pw_cell_below B_1.out HP0.out, pw_cell_below B_1.out HP1.out, pw_cell_below B_1.out HP2.out, (blk_cell P_1.out 0).trans rfl, (blk_cell P_1.out 1).trans rfl, (blk_cell P_1.out 2).trans rfl⟩ (fun hHeld => ?_)
     generalize wr.drew = w1 at *
     refine pure_ (i := 0) (N := some 100) (v := ?_) (a' := ?_) #[tt_,ff_,ff_,ff_,ff_,ff_,ff_,ff_,ff_,ff_,ff_,ff_,ff_,ff_,ff_,ff_,ff_,ff_,ff_,ff_,ff_] rfl rfl (by kernel_rfl) (fun _ _ _ h => h) (Or.inl ⟨by rfl, ?_⟩) ?_ ?_
     rotate_left
     ·intro w'
      go_simp
      with_reducible rfl
     rotate_left
     ·simp only [Act.put, List.setIfInBounds_toArray, List.set_cons_zero, List.set_cons_succ, i64_w, i32_w]
      rfl
     refine pure_ (i := 1) (N := some 101) (v := ?_) (a' := ?_) #[tt_,tt_,ff_,ff_,ff_,ff_,ff_,ff_,ff_,ff_,ff_,ff_,ff_,ff_,ff_,ff_,ff_,ff_,ff_,ff_,ff_] rfl rfl (by kernel_rfl) (fun _ _ _ h => h) (Or.inl ⟨by rfl, ?_⟩) ?_ ?_
     rotate_left
     ·intro w'
      go_simp
      with_reducible rfl
     rotate_left
     ·simp only [Act.put, List.setIfInBounds_toArray, List.set_cons_zero, List.set_cons_succ, i64_w, i32_w]
      rfl
     refine pure_ (i := 2) (N := some 102) (v := ?_) (a' := ?_) #[tt_,tt_,tt_,ff_,ff_,ff_,ff_,ff_,ff_,ff_,ff_,ff_,ff_,ff_,ff_,ff_,ff_,ff_,ff_,ff_,ff_] rfl rfl (by kernel_rfl) (fun _ _ _ h => h) (Or.inl ⟨by rfl, ?_⟩) ?_ ?_
     rotate_left
     ·intro w'
      go_simp
      with_reducible rfl
     rotate_left
     ·simp only [Act.put, List.setIfInBounds_toArray, List.set_cons_zero, List.set_cons_succ, i64_w, i32_w]
      rfl
     refine pure_ (i := 3) (N := some 103) (v := ?_) (a' := ?_) #[tt_,tt_,tt_,tt_,ff_,ff_,ff_,ff_,ff_,ff_,ff_,ff_,ff_,ff_,ff_,ff_,ff_,ff_,ff_,ff_,ff_] rfl rfl (by kernel_rfl) (fun _ _ _ h => h) (Or.inl ⟨by rfl, ?_⟩) ?_ ?_
     rotate_left
     ·intro w'
      go_simp
      with_reducible rfl
     rotate_left
     ·simp only [Act.put, List.setIfInBounds_toArray, List.set_cons_zero, List.set_cons_succ, i64_w, i32_w]
      rfl
     refine pure_ (i := 5) (N := some 105) (v := ?_) (a' := ?_) #[tt_,tt_,tt_,tt_,ff_,tt_,ff_,ff_,ff_,ff_,ff_,ff_,ff_,ff_,ff_,ff_,ff_,ff_,ff_,ff_,ff_] rfl rfl (by kernel_rfl) (fun _ _ _ h => h) (Or.inl ⟨by rfl, ?_⟩) ?_ ?_
     rotate_left
     ·intro w'
      go_simp
      with_reducible rfl
     rotate_left
     ·simp only [Act.put, List.setIfInBounds_toArray, List.set_cons_zero, List.set_cons_succ, i64_w, i32_w]
      rfl
     refine pure_ (i := 6) (N := some 106) (v := ?_) (a' := ?_) #[tt_,tt_,tt_,tt_,ff_,tt_,tt_,ff_,ff_,ff_,ff_,ff_,ff_,ff_,ff_,ff_,ff_,ff_,ff_,ff_,ff_] rfl rfl (by kernel_rfl) (fun _ _ _ h => h) (Or.inl ⟨by rfl, ?_⟩) ?_ ?_
     rotate_left
     ·intro w'
      go_simp
      with_reducible rfl
     rotate_left
     ·simp only [Act.put, List.setIfInBounds_toArray, List.set_cons_zero, List.set_cons_succ, i64_w, i32_w]
      rfl
     refine pure_ (i := 7) (N := some 107) (v := ?_) (a' := ?_) #[tt_,tt_,tt_,tt_,ff_,tt_,tt_,tt_,ff_,ff_,ff_,ff_,ff_,ff_,ff_,ff_,ff_,ff_,ff_,ff_,ff_] rfl rfl (by kernel_rfl) (fun _ _ _ h => h) (Or.inl ⟨by rfl, ?_⟩) ?_ ?_
     rotate_left
     ·intro w'
      go_simp
      with_reducible rfl
     rotate_left
     ·simp only [Act.put, List.setIfInBounds_toArray, List.set_cons_zero, List.set_cons_succ, i64_w, i32_w]
      rfl
     refine pure_ (i := 10) (N := some 110) (v := ?_) (a' := ?_) #[tt_,tt_,tt_,tt_,ff_,tt_,tt_,tt_,ff_,ff_,tt_,ff_,ff_,ff_,ff_,ff_,ff_,ff_,ff_,ff_,ff_] rfl rfl (by kernel_rfl) (fun _ _ _ h => h) (Or.inl ⟨by rfl, ?_⟩) ?_ ?_
     rotate_left
     ·intro w'
      go_simp
      with_reducible rfl
     rotate_left
     ·simp only [Act.put, List.setIfInBounds_toArray, List.set_cons_zero, List.set_cons_succ, i64_w, i32_w]
      rfl
     refine pure_ (i := 11) (N := some 111) (v := ?_) (a' := ?_) #[tt_,tt_,tt_,tt_,ff_,tt_,tt_,tt_,ff_,ff_,tt_,tt_,ff_,ff_,ff_,ff_,ff_,ff_,ff_,ff_,ff_] rfl rfl (by kernel_rfl) (fun _ _ _ h => h) (Or.inl ⟨by rfl, ?_⟩) ?_ ?_
     rotate_left
     ·intro w'
      go_simp
      with_reducible rfl
     rotate_left
     ·simp only [Act.put, List.setIfInBounds_toArray, List.set_cons_zero, List.set_cons_succ, i64_w, i32_w]
      rfl
     refine take_ (i := 4) (N := some 104) (v := ?_) (a' := ?_) #[tt_,tt_,tt_,tt_,tt_,tt_,tt_,tt_,ff_,ff_,tt_,tt_,ff_,ff_,ff_,ff_,ff_,ff_,ff_,ff_,ff_] rfl rfl (by kernel_rfl) (fun _ _ _ h => h) (Or.inl ⟨by rfl, ?_⟩) hHeld ?_ ?_
     rotate_left
     ·rintro w' ⟨s0, s1, s2, s3, s4, s5, s6⟩
      go_simp
      with_reducible rfl
     rotate_left
     ·simp only [Act.put, List.setIfInBounds_toArray, List.set_cons_zero, List.set_cons_succ, i64_w, i32_w]
      rfl
     refine take_ (i := 8) (N := some 108) (v := ?_) (a' := ?_) #[tt_,tt_,tt_,tt_,tt_,tt_,tt_,tt_,tt_,ff_,tt_,tt_,ff_,ff_,ff_,ff_,ff_,ff_,ff_,ff_,ff_] rfl rfl (by kernel_rfl) (fun _ _ _ h => h) (Or.inl ⟨by rfl, ?_⟩) hHeld ?_ ?_
     rotate_left
     ·rintro w' ⟨s0, s1, s2, s3, s4, s5, s6⟩
      go_simp
      with_reducible rfl
     rotate_left
     ·simp only [Act.put, List.setIfInBounds_toArray, List.set_cons_zero, List.set_cons_succ, i64_w, i32_w]
      rfl
     refine one_ (i := 9) (N := some 109) #[tt_,tt_,tt_,tt_,tt_,tt_,tt_,tt_,tt_,tt_,tt_,tt_,ff_,ff_,ff_,ff_,ff_,ff_,ff_,ff_,ff_] rfl rfl (by kernel_rfl) (by decide) (fun K hK => ?_)
     refine goes_ Try.func14 (by kernel_rfl) rfl #[.pointer (some ⟨g, 0, none⟩), .int .u32 (q : Int), .agg #[.int .u32 (pj.X : Int), .int .u32 (pj.B : Int), .bool pj.H]] (by rfl) rfl rfl (by (try simp only [List.map_toArray, List.map_cons, List.map_nil]); rfl) ?_
     with_reducible refine (HK2.out _ pj bb HPJ.out (below_step BW.out B_1.out) HBB.out).mono ?_
     rintro e w2 ⟨rfl, hb⟩
     refine ⟨_, rfl, ?_⟩
     have B_2 := Aside0.mk (below_step B_1.out hb)
     have P_2 := Aside0.mk (blk_below P_1.out hb)
     clear P_1
     clear hb
     refine hK.out _ _ ⟨HCX.out _ (below_step BW.out B_2.out), pw_cell_below B_2.out HP0.out, pw_cell_below B_2.out HP1.out, pw_cell_below B_2.out HP2.out, (blk_cell P_2.out 0).trans rfl, (blk_cell P_2.out 1).trans rfl, (blk_cell P_2.out 2).trans rfl⟩ (fun hHeld => ?_)
     clear hK K
     refine norm_ (a' := ?_) ?_ ?_
     rotate_left
     ·show Act.put _ (some 109) _ = _
      simp only [Act.put, List.setIfInBounds_toArray, List.set_cons_zero, List.set_cons_succ, i64_w, i32_w]
      rfl
     refine pure_ (i := 12) (N := some 112) (v := ?_) (a' := ?_) #[tt_,tt_,tt_,tt_,tt_,tt_,tt_,tt_,tt_,tt_,tt_,tt_,tt_,ff_,ff_,ff_,ff_,ff_,ff_,ff_,ff_] rfl rfl (by kernel_rfl) (fun _ _ _ h => h) (Or.inl ⟨by rfl, ?_⟩) ?_ ?_
     rotate_left
     ·intro w'
      go_simp
      with_reducible rfl
     rotate_left
     ·simp only [Act.put, List.setIfInBounds_toArray, List.set_cons_zero, List.set_cons_succ, i64_w, i32_w]
      rfl
     refine pure_ (i := 13) (N := some 113) (v := ?_) (a' := ?_) #[tt_,tt_,tt_,tt_,tt_,tt_,tt_,tt_,tt_,tt_,tt_,tt_,tt_,tt_,ff_,ff_,ff_,ff_,ff_,ff_,ff_] rfl rfl (by kernel_rfl) (fun _ _ _ h => h) (Or.inl ⟨by rfl, ?_⟩) ?_ ?_
     rotate_left
     ·intro w'
      go_simp
      with_reducible rfl
     rotate_left
     ·simp only [Act.put, List.setIfInBounds_toArray, List.set_cons_zero, List.set_cons_succ, i64_w, i32_w]
      rfl
     refine pure_ (i := 14) (N := some 114) (v := ?_) (a' := ?_) #[tt_,tt_,tt_,tt_,tt_,tt_,tt_,tt_,tt_,tt_,tt_,tt_,tt_,tt_,tt_,ff_,ff_,ff_,ff_,ff_,ff_] rfl rfl (by kernel_rfl) (fun _ _ _ h => h) (Or.inl ⟨by rfl, ?_⟩) ?_ ?_
     rotate_left
     ·intro w'
      go_simp
      with_reducible rfl
     rotate_left
     ·simp only [Act.put, List.setIfInBounds_toArray, List.set_cons_zero, List.set_cons_succ, i64_w, i32_w]
      rfl
     refine pure_ (i := 15) (N := some 115) (v := ?_) (a' := ?_) #[tt_,tt_,tt_,tt_,tt_,tt_,tt_,tt_,tt_,tt_,tt_,tt_,tt_,tt_,tt_,tt_,ff_,ff_,ff_,ff_,ff_] rfl rfl (by kernel_rfl) (fun _ _ _ h => h) (Or.inl ⟨by rfl, ?_⟩) ?_ ?_
     rotate_left
     ·intro w'
      go_simp
      with_reducible rfl
     rotate_left
     ·simp only [Act.put, List.setIfInBounds_toArray, List.set_cons_zero, List.set_cons_succ, i64_w, i32_w]
      rfl
     refine take_ (i := 16) (N := some 116) (v := ?_) (a' := ?_) #[tt_,tt_,tt_,tt_,tt_,tt_,tt_,tt_,tt_,tt_,tt_,tt_,tt_,tt_,tt_,tt_,tt_,ff_,ff_,ff_,ff_] rfl rfl (by kernel_rfl) (fun _ _ _ h => h) (Or.inl ⟨by rfl, ?_⟩) hHeld ?_ ?_
     rotate_left
     ·rintro w' ⟨s0, s1, s2, s3, s4, s5, s6⟩
      go_simp
      with_reducible rfl
     rotate_left
     ·simp only [Act.put, List.setIfInBounds_toArray, List.set_cons_zero, List.set_cons_succ, i64_w, i32_w]
      rfl
     refine take_ (i := 17) (N := some 117) (v := ?_) (a' := ?_) #[tt_,tt_,tt_,tt_,tt_,tt_,tt_,tt_,tt_,tt_,tt_,tt_,tt_,tt_,tt_,tt_,tt_,tt_,ff_,ff_,ff_] rfl rfl (by kernel_rfl) (fun _ _ _ h => h) (Or.inl ⟨by rfl, ?_⟩) hHeld ?_ ?_
     rotate_left
     ·rintro w' ⟨s0, s1, s2, s3, s4, s5, s6⟩
      go_simp
      with_reducible rfl
     rotate_left
     ·simp only [Act.put, List.setIfInBounds_toArray, List.set_cons_zero, List.set_cons_succ, i64_w, i32_w]
      rfl
     refine pure_ (i := 18) (N := some 118) (v := ?_) (a' := ?_) #[tt_,tt_,tt_,tt_,tt_,tt_,tt_,tt_,tt_,tt_,tt_,tt_,tt_,tt_,tt_,tt_,tt_,tt_,tt_,ff_,ff_] rfl rfl (by kernel_rfl) (fun _ _ _ h => h) (Or.inl ⟨by rfl, ?_⟩) ?_ ?_
     rotate_left
     ·intro w'
      go_simp
      with_reducible rfl
     rotate_left
     ·simp only [Act.put, List.setIfInBounds_toArray, List.set_cons_zero, List.set_cons_succ, i64_w, i32_w]
      rfl
     refine pure_ (i := 19) (N := some 119) (v := ?_) (a' := ?_) #[tt_,tt_,tt_,tt_,tt_,tt_,tt_,tt_,tt_,tt_,tt_,tt_,tt_,tt_,tt_,tt_,tt_,tt_,tt_,tt_,ff_] rfl rfl (by kernel_rfl) (fun _ _ _ h => h) (Or.inl ⟨by rfl, ?_⟩) ?_ ?_
     rotate_left
     ·intro w'
      go_simp
      with_reducible rfl
     rotate_left
     ·simp only [Act.put, List.setIfInBounds_toArray, List.set_cons_zero, List.set_cons_succ, i64_w, i32_w]
      rfl
     refine pure_ (i := 20) (N := some 120) (v := ?_) (a' := ?_) #[tt_,tt_,tt_,tt_,tt_,tt_,tt_,tt_,tt_,tt_,tt_,tt_,tt_,tt_,tt_,tt_,tt_,tt_,tt_,tt_,tt_] rfl rfl (by kernel_rfl) (fun _ _ _ h => h) (Or.inl ⟨by rfl, ?_⟩) ?_ ?_
     rotate_left
     ·intro w'
      go_simp
      with_reducible rfl
     rotate_left
     ·simp only [Act.put, List.setIfInBounds_toArray, List.set_cons_zero, List.set_cons_succ, i64_w, i32_w]
      rfl
     refine done_ (by kernel_rfl) ?_
     go_wp2
     go_roundg (k - (j + 1))
     case measure => have := HJN.out; omega
     case rel => exact ⟨j + 1, by first | rfl | (congr 1; omega), HJN.out, by omega, ⟨below_step HBJ.out B_2.out⟩⟩
    ·obtain rfl : j = k := by omega
     have dd : decide ((j : Int) < (j : Int)) = false := decide_eq_false (by omega)
     have P_0 := Aside0.mk (blk_below HP12.out HBJ.out)
     have HB3 : Aside0 (Below W1.heap.size W1 wr) := ⟨below_step HB12.out HBJ.out⟩
     clear hs hjn HBJ
     generalize wr = W3 at *
     have B_0 : Aside0 (Below W3.heap.size W3 W3) := ⟨Below.refl _ _⟩
     obtain ⟨x1, hx1⟩ : ∃ x, (pX + 1) % 4294967296 = x := ⟨_, rfl⟩
     obtain ⟨b1, hb1⟩ : ∃ x, (pB + 1) % 4294967296 = x := ⟨_, rfl⟩
     obtain ⟨h1, hh1⟩ : ∃ x, (!pH) = x := ⟨_, rfl⟩
     have wx : IntKind.u32.wrap ((pX : Int) + 1) = (x1 : Int) := by rw [IntKind.wrap_u32]; omega
     have wb : IntKind.u32.wrap ((pB : Int) + 1) = (b1 : Int) := by rw [IntKind.wrap_u32]; omega
     have H1X : Aside0 (x1 < 4294967296) := ⟨by omega⟩
     have hxb := HX1.out
     have N1 : Aside0 (decide ((⟨x1, pB, pH⟩ : Pf) = ⟨pX, pB, pH⟩) = false) := ⟨decide_eq_false (fun e => by injection e with e; omega)⟩
     have N2 : Aside0 (decide ((⟨pX, b1, pH⟩ : Pf) = ⟨pX, pB, pH⟩) = false) := ⟨decide_eq_false (fun e => by injection e with _ e; omega)⟩
     have N3 : Aside0 (decide ((⟨pX, pB, h1⟩ : Pf) = ⟨pX, pB, pH⟩) = false) := ⟨decide_eq_false (fun e => by injection e with _ _ e; rw [← hh1] at e; cases pH <;> cases e)⟩
     clear hx1 hb1 hxb
     go_wp2_with (first | ((with_reducible refine gate_dst (N := 121) rfl ?_); refine loadg32 rfl ?hw g12 _ _ _ rfl P_0.out ?_; (case hw => rfl)) | ((with_reducible refine gate_dst (N := 17) rfl ?_); refine box_event ?hg (N := 17) ?hd (cs := #[.int .u32 0, .int .u32 0, .bool false]) (t := 32) ?hr ?_; (case hd => rfl); (case hg => rfl); (case hr => first | (go_simp; done) | (go_simp; rfl)); intro g17 hg_ w1 hm_ hb_; have NEPN := Aside0.mk (show g12 ≠ g17 by rw [hg_]; have := blk_lt P_0.out; omega); have GN := Aside0.mk (show W3.heap.size ≤ g17 by rw [hg_]; exact B_0.out.size); have B_1 := Aside0.mk (below_step B_0.out hb_); have P_1 := Aside0.mk (blk_below P_0.out hb_); clear P_0; have N_1 := Aside0.mk (hm_); have cN0 := (blk_cell N_1.out 0).trans rfl; have cN1 := (blk_cell N_1.out 1).trans rfl; have cN2 := (blk_cell N_1.out 2).trans rfl; clear hm_ hb_ hg_) | ((with_reducible refine gate_store (p := 17) rfl ?_); refine store_event rfl rfl rfl g17 #[.int .u32 (pX : Int), .int .u32 (pB : Int), .bool pH] _ 32 rfl rfl N_1.out size32 rfl (by simp [Value.oneCell']) ?_; intro w2 hm_ hst_ hbl_; clear cN0 cN1 cN2; have B_2 := Aside0.mk (B_1.out.trans (hbl_ _ GN.out)); have P_2 := Aside0.mk ((hst_ g12 NEPN.out).trans P_1.out); have N_2 := Aside0.mk (hm_); clear P_1 N_1 hm_ hst_ hbl_; have cN0 := (blk_cell N_2.out 0).trans rfl; have cN1 := (blk_cell N_2.out 1).trans rfl; have cN2 := (blk_cell N_2.out 2).trans rfl) | ((with_reducible refine gate_store (p := 125) rfl ?_); refine storec_event rfl rfl rfl g17 0 (.int .u32 (x1 : Int)) _ _ rfl rfl rfl N_2.out size30 (by simp) rfl ?_; intro w3 hm_ hst_ hbl_; clear cN0 cN1 cN2; have B_3 := Aside0.mk (B_2.out.trans (hbl_ _ GN.out)); have P_3 := Aside0.mk ((hst_ g12 NEPN.out).trans P_2.out); have N_3 := Aside0.mk (hm_); clear P_2 N_2 hm_ hst_ hbl_; have cN0 := (blk_cell N_3.out 0).trans rfl; have cN1 := (blk_cell N_3.out 1).trans rfl; have cN2 := (blk_cell N_3.out 2).trans rfl) | ((with_reducible refine gate_dst (N := 126) rfl ?_); refine loadg32 rfl ?hw g12 _ _ _ rfl P_3.out ?_; (case hw => rfl)) | ((with_reducible refine gate_dst (N := 18) rfl ?_); refine box_event ?hg (N := 18) ?hd (cs := #[.int .u32 0, .int .u32 0, .bool false]) (t := 32) ?hr ?_; (case hd => rfl); (case hg => rfl); (case hr => first | (go_simp; done) | (go_simp; rfl)); intro g18 hg_ w4 hm_ hb_; have NEPO := Aside0.mk (show g12 ≠ g18 by rw [hg_]; have := blk_lt P_3.out; omega); have NENO := Aside0.mk (show g17 ≠ g18 by rw [hg_]; have := blk_lt N_3.out; omega); have GO := Aside0.mk (show W3.heap.size ≤ g18 by rw [hg_]; exact B_3.out.size); clear cN0 cN1 cN2; have B_4 := Aside0.mk (below_step B_3.out hb_); have P_4 := Aside0.mk (blk_below P_3.out hb_); have N_4 := Aside0.mk (blk_below N_3.out hb_); clear P_3 N_3; have O_4 := Aside0.mk (hm_); have cN0 := (blk_cell N_4.out 0).trans rfl; have cN1 := (blk_cell N_4.out 1).trans rfl; have cN2 := (blk_cell N_4.out 2).trans rfl; have cO0 := (blk_cell O_4.out 0).trans rfl; have cO1 := (blk_cell O_4.out 1).trans rfl; have cO2 := (blk_cell O_4.out 2).trans rfl; clear hm_ hb_ hg_) | ((with_reducible refine gate_store (p := 18) rfl ?_); refine store_event rfl rfl rfl g18 #[.int .u32 (pX : Int), .int .u32 (pB : Int), .bool pH] _ 32 rfl rfl O_4.out size32 rfl (by simp [Value.oneCell']) ?_; intro w5 hm_ hst_ hbl_; clear cN0 cN1 cN2 cO0 cO1 cO2; have B_5 := Aside0.mk (B_4.out.trans (hbl_ _ GO.out)); have P_5 := Aside0.mk ((hst_ g12 NEPO.out).trans P_4.out); have N_5 := Aside0.mk ((hst_ g17 NENO.out).trans N_4.out); have O_5 := Aside0.mk (hm_); clear P_4 N_4 O_4 hm_ hst_ hbl_; have cN0 := (blk_cell N_5.out 0).trans rfl; have cN1 := (blk_cell N_5.out 1).trans rfl; have cN2 := (blk_cell N_5.out 2).trans rfl; have cO0 := (blk_cell O_5.out 0).trans rfl; have cO1 := (blk_cell O_5.out 1).trans rfl; have cO2 := (blk_cell O_5.out 2).trans rfl) | ((with_reducible refine gate_store (p := 130) rfl ?_); refine storec_event rfl rfl rfl g18 1 (.int .u32 (b1 : Int)) _ _ rfl rfl rfl O_5.out size30 (by simp) rfl ?_; intro w6 hm_ hst_ hbl_; clear cN0 cN1 cN2 cO0 cO1 cO2; have B_6 := Aside0.mk (B_5.out.trans (hbl_ _ GO.out)); have P_6 := Aside0.mk ((hst_ g12 NEPO.out).trans P_5.out); have N_6 := Aside0.mk ((hst_ g17 NENO.out).trans N_5.out); have O_6 := Aside0.mk (hm_); clear P_5 N_5 O_5 hm_ hst_ hbl_; have cN0 := (blk_cell N_6.out 0).trans rfl; have cN1 := (blk_cell N_6.out 1).trans rfl; have cN2 := (blk_cell N_6.out 2).trans rfl; have cO0 := (blk_cell O_6.out 0).trans rfl; have cO1 := (blk_cell O_6.out 1).trans rfl; have cO2 := (blk_cell O_6.out 2).trans rfl) | ((with_reducible refine gate_dst (N := 131) rfl ?_); refine loadg32 rfl ?hw g12 _ _ _ rfl P_6.out ?_; (case hw => rfl)) | ((with_reducible refine gate_dst (N := 19) rfl ?_); refine box_event ?hg (N := 19) ?hd (cs := #[.int .u32 0, .int .u32 0, .bool false]) (t := 32) ?hr ?_; (case hd => rfl); (case hg => rfl); (case hr => first | (go_simp; done) | (go_simp; rfl)); intro g19 hg_ w7 hm_ hb_; have NEPH := Aside0.mk (show g12 ≠ g19 by rw [hg_]; have := blk_lt P_6.out; omega); have NENH := Aside0.mk (show g17 ≠ g19 by rw [hg_]; have := blk_lt N_6.out; omega); have NEOH := Aside0.mk (show g18 ≠ g19 by rw [hg_]; have := blk_lt O_6.out; omega); have GH := Aside0.mk (show W3.heap.size ≤ g19 by rw [hg_]; exact B_6.out.size); clear cN0 cN1 cN2 cO0 cO1 cO2; have B_7 := Aside0.mk (below_step B_6.out hb_); have P_7 := Aside0.mk (blk_below P_6.out hb_); have N_7 := Aside0.mk (blk_below N_6.out hb_); have O_7 := Aside0.mk (blk_below O_6.out hb_); clear P_6 N_6 O_6; have H_7 := Aside0.mk (hm_); have cN0 := (blk_cell N_7.out 0).trans rfl; have cN1 := (blk_cell N_7.out 1).trans rfl; have cN2 := (blk_cell N_7.out 2).trans rfl; have cO0 := (blk_cell O_7.out 0).trans rfl; have cO1 := (blk_cell O_7.out 1).trans rfl; have cO2 := (blk_cell O_7.out 2).trans rfl; have cH0 := (blk_cell H_7.out 0).trans rfl; have cH1 := (blk_cell H_7.out 1).trans rfl; have cH2 := (blk_cell H_7.out 2).trans rfl; clear hm_ hb_ hg_) | ((with_reducible refine gate_store (p := 19) rfl ?_); refine store_event rfl rfl rfl g19 #[.int .u32 (pX : Int), .int .u32 (pB : Int), .bool pH] _ 32 rfl rfl H_7.out size32 rfl (by simp [Value.oneCell']) ?_; intro w8 hm_ hst_ hbl_; clear cN0 cN1 cN2 cO0 cO1 cO2 cH0 cH1 cH2; have B_8 := Aside0.mk (B_7.out.trans (hbl_ _ GH.out)); have P_8 := Aside0.mk ((hst_ g12 NEPH.out).trans P_7.out); have N_8 := Aside0.mk ((hst_ g17 NENH.out).trans N_7.out); have O_8 := Aside0.mk ((hst_ g18 NEOH.out).trans O_7.out); have H_8 := Aside0.mk (hm_); clear P_7 N_7 O_7 H_7 hm_ hst_ hbl_; have cN0 := (blk_cell N_8.out 0).trans rfl; have cN1 := (blk_cell N_8.out 1).trans rfl; have cN2 := (blk_cell N_8.out 2).trans rfl; have cO0 := (blk_cell O_8.out 0).trans rfl; have cO1 := (blk_cell O_8.out 1).trans rfl; have cO2 := (blk_cell O_8.out 2).trans rfl; have cH0 := (blk_cell H_8.out 0).trans rfl; have cH1 := (blk_cell H_8.out 1).trans rfl; have cH2 := (blk_cell H_8.out 2).trans rfl) | ((with_reducible refine gate_store (p := 135) rfl ?_); refine storec_event rfl rfl rfl g19 2 (.bool h1) _ _ rfl rfl rfl H_8.out size4 (by simp) rfl ?_; intro w9 hm_ hst_ hbl_; clear cN0 cN1 cN2 cO0 cO1 cO2 cH0 cH1 cH2; have B_9 := Aside0.mk (B_8.out.trans (hbl_ _ GH.out)); have P_9 := Aside0.mk ((hst_ g12 NEPH.out).trans P_8.out); have N_9 := Aside0.mk ((hst_ g17 NENH.out).trans N_8.out); have O_9 := Aside0.mk ((hst_ g18 NEOH.out).trans O_8.out); have H_9 := Aside0.mk (hm_); clear P_8 N_8 O_8 H_8 hm_ hst_ hbl_; have cN0 := (blk_cell N_9.out 0).trans rfl; have cN1 := (blk_cell N_9.out 1).trans rfl; have cN2 := (blk_cell N_9.out 2).trans rfl; have cO0 := (blk_cell O_9.out 0).trans rfl; have cO1 := (blk_cell O_9.out 1).trans rfl; have cO2 := (blk_cell O_9.out 2).trans rfl; have cH0 := (blk_cell H_9.out 0).trans rfl; have cH1 := (blk_cell H_9.out 1).trans rfl; have cH2 := (blk_cell H_9.out 2).trans rfl))
     clear cN0 cN1 cN2 cO0 cO1 cO2 cH0 cH1 cH2
     have B_10 : Aside0 (Below W3.heap.size W3 w9.drew) := ⟨below_drew B_9.out⟩
     have P_10 := Aside0.mk (blk_drew P_9.out)
     have N_10 := Aside0.mk (blk_drew N_9.out)
     have O_10 := Aside0.mk (blk_drew O_9.out)
     have H_10 := Aside0.mk (blk_drew H_9.out)
     clear B_9 P_9 N_9 O_9 H_9
     refine start_ (n := 25) (S := fun w' => w'.cell? (ax.add i) = some (.int .u32 (q : Int)) ∧ w'.cell? ⟨g17, 0, none⟩ = some (.int .u32 (x1 : Int)) ∧ w'.cell? ⟨g17, 1, none⟩ = some (.int .u32 (pB : Int)) ∧ w'.cell? ⟨g17, 2, none⟩ = some (.bool pH) ∧ w'.cell? ⟨g18, 0, none⟩ = some (.int .u32 (pX : Int)) ∧ w'.cell? ⟨g18, 1, none⟩ = some (.int .u32 (b1 : Int)) ∧ w'.cell? ⟨g18, 2, none⟩ = some (.bool pH) ∧ w'.cell? ⟨g19, 0, none⟩ = some (.int .u32 (pX : Int)) ∧ w'.cell? ⟨g19, 1, none⟩ = some (.int .u32 (pB : Int)) ∧ w'.cell? ⟨g19, 2, none⟩ = some (.bool h1)) (ds := []) #[ff_,ff_,ff_,ff_,ff_,ff_,ff_,ff_,ff_,ff_,ff_,ff_,ff_,ff_,ff_,ff_,ff_,ff_,ff_,ff_,ff_,ff_,ff_,ff_,ff_] (by kernel_rfl) rfl rfl ⟨HCX.out _ (below_step HB3.out B_10.out), (blk_cell N_10.out 0).trans rfl, (blk_cell N_10.out 1).trans rfl, (blk_cell N_10.out 2).trans rfl, (blk_cell O_10.out 0).trans rfl, (blk_cell O_10.out 1).trans rfl, (blk_cell O_10.out 2).trans rfl, (blk_cell H_10.out 0).trans rfl, (blk_cell H_10.out 1).trans rfl, (blk_cell H_10.out 2).trans rfl⟩ (fun hHeld => ?_)
     generalize w9.drew = w10 at *
     refine pure_ (i := 0) (N := some 136) (v := ?_) (a' := ?_) #[tt_,ff_,ff_,ff_,ff_,ff_,ff_,ff_,ff_,ff_,ff_,ff_,ff_,ff_,ff_,ff_,ff_,ff_,ff_,ff_,ff_,ff_,ff_,ff_,ff_] rfl rfl (by kernel_rfl) (fun _ _ _ h => h) (Or.inl ⟨by rfl, ?_⟩) ?_ ?_
     rotate_left
     ·intro w'
      go_simp
      with_reducible rfl
     rotate_left
     ·simp only [Act.put, List.setIfInBounds_toArray, List.set_cons_zero, List.set_cons_succ, i64_w, i32_w]
      rfl
     refine pure_ (i := 1) (N := some 137) (v := ?_) (a' := ?_) #[tt_,tt_,ff_,ff_,ff_,ff_,ff_,ff_,ff_,ff_,ff_,ff_,ff_,ff_,ff_,ff_,ff_,ff_,ff_,ff_,ff_,ff_,ff_,ff_,ff_] rfl rfl (by kernel_rfl) (fun _ _ _ h => h) (Or.inl ⟨by rfl, ?_⟩) ?_ ?_
     rotate_left
     ·intro w'
      go_simp
      with_reducible rfl
     rotate_left
     ·simp only [Act.put, List.setIfInBounds_toArray, List.set_cons_zero, List.set_cons_succ, i64_w, i32_w]
      rfl
     refine pure_ (i := 2) (N := some 138) (v := ?_) (a' := ?_) #[tt_,tt_,tt_,ff_,ff_,ff_,ff_,ff_,ff_,ff_,ff_,ff_,ff_,ff_,ff_,ff_,ff_,ff_,ff_,ff_,ff_,ff_,ff_,ff_,ff_] rfl rfl (by kernel_rfl) (fun _ _ _ h => h) (Or.inl ⟨by rfl, ?_⟩) ?_ ?_
     rotate_left
     ·intro w'
      go_simp
      with_reducible rfl
     rotate_left
     ·simp only [Act.put, List.setIfInBounds_toArray, List.set_cons_zero, List.set_cons_succ, i64_w, i32_w]
      rfl
     refine pure_ (i := 3) (N := some 139) (v := ?_) (a' := ?_) #[tt_,tt_,tt_,tt_,ff_,ff_,ff_,ff_,ff_,ff_,ff_,ff_,ff_,ff_,ff_,ff_,ff_,ff_,ff_,ff_,ff_,ff_,ff_,ff_,ff_] rfl rfl (by kernel_rfl) (fun _ _ _ h => h) (Or.inl ⟨by rfl, ?_⟩) ?_ ?_
     rotate_left
     ·intro w'
      go_simp
      with_reducible rfl
     rotate_left
     ·simp only [Act.put, List.setIfInBounds_toArray, List.set_cons_zero, List.set_cons_succ, i64_w, i32_w]
      rfl
     refine take_ (i := 4) (N := some 140) (v := ?_) (a' := ?_) #[tt_,tt_,tt_,tt_,tt_,ff_,ff_,ff_,ff_,ff_,ff_,ff_,ff_,ff_,ff_,ff_,ff_,ff_,ff_,ff_,ff_,ff_,ff_,ff_,ff_] rfl rfl (by kernel_rfl) (fun _ _ _ h => h) (Or.inl ⟨by rfl, ?_⟩) hHeld ?_ ?_
     rotate_left
     ·rintro w' ⟨s0, s1, s2, s3, s4, s5, s6, s7, s8, s9⟩
      go_simp
      with_reducible rfl
     rotate_left
     ·simp only [Act.put, List.setIfInBounds_toArray, List.set_cons_zero, List.set_cons_succ, i64_w, i32_w]
      rfl
     refine take_ (i := 5) (N := some 141) (v := ?_) (a' := ?_) #[tt_,tt_,tt_,tt_,tt_,tt_,ff_,ff_,ff_,ff_,ff_,ff_,ff_,ff_,ff_,ff_,ff_,ff_,ff_,ff_,ff_,ff_,ff_,ff_,ff_] rfl rfl (by kernel_rfl) (fun _ _ _ h => h) (Or.inl ⟨by rfl, ?_⟩) hHeld ?_ ?_
     rotate_left
     ·rintro w' ⟨s0, s1, s2, s3, s4, s5, s6, s7, s8, s9⟩
      go_simp
      with_reducible rfl
     rotate_left
     ·simp only [Act.put, List.setIfInBounds_toArray, List.set_cons_zero, List.set_cons_succ, i64_w, i32_w]
      rfl
     refine one_ (i := 6) (N := some 142) #[tt_,tt_,tt_,tt_,tt_,tt_,tt_,ff_,ff_,ff_,ff_,ff_,ff_,ff_,ff_,ff_,ff_,ff_,ff_,ff_,ff_,ff_,ff_,ff_,ff_] rfl rfl (by kernel_rfl) (by decide) (fun K hK => ?_)
     refine goes_ Try.func14 (by kernel_rfl) rfl #[.pointer (some ⟨g, 0, none⟩), .int .u32 (q : Int), .agg #[.int .u32 (x1 : Int), .int .u32 (pB : Int), .bool pH]] (by rfl) rfl rfl (by (try simp only [List.map_toArray, List.map_cons, List.map_nil]); rfl) ?_
     refine (HK2.out _ ⟨x1, pB, pH⟩ false H1X.out (below_step HB3.out B_10.out) N1.out).mono ?_
     rintro e w11 ⟨rfl, hb⟩
     refine ⟨_, rfl, ?_⟩
     have B_11 := Aside0.mk (below_step B_10.out hb)
     have P_11 := Aside0.mk (blk_below P_10.out hb)
     have N_11 := Aside0.mk (blk_below N_10.out hb)
     have O_11 := Aside0.mk (blk_below O_10.out hb)
     have H_11 := Aside0.mk (blk_below H_10.out hb)
     clear P_10 N_10 O_10 H_10
     clear hb
     refine hK.out _ _ ⟨HCX.out _ (below_step HB3.out B_11.out), (blk_cell N_11.out 0).trans rfl, (blk_cell N_11.out 1).trans rfl, (blk_cell N_11.out 2).trans rfl, (blk_cell O_11.out 0).trans rfl, (blk_cell O_11.out 1).trans rfl, (blk_cell O_11.out 2).trans rfl, (blk_cell H_11.out 0).trans rfl, (blk_cell H_11.out 1).trans rfl, (blk_cell H_11.out 2).trans rfl⟩ (fun hHeld => ?_)
     clear hK K
     refine norm_ (a' := ?_) ?_ ?_
     rotate_left
     ·show Act.put _ (some 142) _ = _
      simp only [Act.put, List.setIfInBounds_toArray, List.set_cons_zero, List.set_cons_succ, i64_w, i32_w]
      rfl
     refine pure_ (i := 7) (N := some 143) (v := ?_) (a' := ?_) #[tt_,tt_,tt_,tt_,tt_,tt_,tt_,tt_,ff_,ff_,ff_,ff_,ff_,ff_,ff_,ff_,ff_,ff_,ff_,ff_,ff_,ff_,ff_,ff_,ff_] rfl rfl (by kernel_rfl) (fun _ _ _ h => h) (Or.inl ⟨by rfl, ?_⟩) ?_ ?_
     rotate_left
     ·intro w'
      go_simp
      with_reducible rfl
     rotate_left
     ·simp only [Act.put, List.setIfInBounds_toArray, List.set_cons_zero, List.set_cons_succ, i64_w, i32_w]
      rfl
     refine pure_ (i := 8) (N := some 144) (v := ?_) (a' := ?_) #[tt_,tt_,tt_,tt_,tt_,tt_,tt_,tt_,tt_,ff_,ff_,ff_,ff_,ff_,ff_,ff_,ff_,ff_,ff_,ff_,ff_,ff_,ff_,ff_,ff_] rfl rfl (by kernel_rfl) (fun _ _ _ h => h) (Or.inl ⟨by rfl, ?_⟩) ?_ ?_
     rotate_left
     ·intro w'
      go_simp
      with_reducible rfl
     rotate_left
     ·simp only [Act.put, List.setIfInBounds_toArray, List.set_cons_zero, List.set_cons_succ, i64_w, i32_w]
      rfl
     refine pure_ (i := 9) (N := some 145) (v := ?_) (a' := ?_) #[tt_,tt_,tt_,tt_,tt_,tt_,tt_,tt_,tt_,tt_,ff_,ff_,ff_,ff_,ff_,ff_,ff_,ff_,ff_,ff_,ff_,ff_,ff_,ff_,ff_] rfl rfl (by kernel_rfl) (fun _ _ _ h => h) (Or.inl ⟨by rfl, ?_⟩) ?_ ?_
     rotate_left
     ·intro w'
      go_simp
      with_reducible rfl
     rotate_left
     ·simp only [Act.put, List.setIfInBounds_toArray, List.set_cons_zero, List.set_cons_succ, i64_w, i32_w]
      rfl
     refine pure_ (i := 10) (N := some 146) (v := ?_) (a' := ?_) #[tt_,tt_,tt_,tt_,tt_,tt_,tt_,tt_,tt_,tt_,tt_,ff_,ff_,ff_,ff_,ff_,ff_,ff_,ff_,ff_,ff_,ff_,ff_,ff_,ff_] rfl rfl (by kernel_rfl) (fun _ _ _ h => h) (Or.inl ⟨by rfl, ?_⟩) ?_ ?_
     rotate_left
     ·intro w'
      go_simp
      with_reducible rfl
     rotate_left
     ·simp only [Act.put, List.setIfInBounds_toArray, List.set_cons_zero, List.set_cons_succ, i64_w, i32_w]
      rfl
     refine pure_ (i := 11) (N := some 147) (v := ?_) (a' := ?_) #[tt_,tt_,tt_,tt_,tt_,tt_,tt_,tt_,tt_,tt_,tt_,tt_,ff_,ff_,ff_,ff_,ff_,ff_,ff_,ff_,ff_,ff_,ff_,ff_,ff_] rfl rfl (by kernel_rfl) (fun _ _ _ h => h) (Or.inl ⟨by rfl, ?_⟩) ?_ ?_
     rotate_left
     ·intro w'
      go_simp
      with_reducible rfl
     rotate_left
     ·simp only [Act.put, List.setIfInBounds_toArray, List.set_cons_zero, List.set_cons_succ, i64_w, i32_w]
      rfl
     refine take_ (i := 12) (N := some 148) (v := ?_) (a' := ?_) #[tt_,tt_,tt_,tt_,tt_,tt_,tt_,tt_,tt_,tt_,tt_,tt_,tt_,ff_,ff_,ff_,ff_,ff_,ff_,ff_,ff_,ff_,ff_,ff_,ff_] rfl rfl (by kernel_rfl) (fun _ _ _ h => h) (Or.inl ⟨by rfl, ?_⟩) hHeld ?_ ?_
     rotate_left
     ·rintro w' ⟨s0, s1, s2, s3, s4, s5, s6, s7, s8, s9⟩
      go_simp
      with_reducible rfl
     rotate_left
     ·simp only [Act.put, List.setIfInBounds_toArray, List.set_cons_zero, List.set_cons_succ, i64_w, i32_w]
      rfl
     refine take_ (i := 13) (N := some 149) (v := ?_) (a' := ?_) #[tt_,tt_,tt_,tt_,tt_,tt_,tt_,tt_,tt_,tt_,tt_,tt_,tt_,tt_,ff_,ff_,ff_,ff_,ff_,ff_,ff_,ff_,ff_,ff_,ff_] rfl rfl (by kernel_rfl) (fun _ _ _ h => h) (Or.inl ⟨by rfl, ?_⟩) hHeld ?_ ?_
     rotate_left
     ·rintro w' ⟨s0, s1, s2, s3, s4, s5, s6, s7, s8, s9⟩
      go_simp
      with_reducible rfl
     rotate_left
     ·simp only [Act.put, List.setIfInBounds_toArray, List.set_cons_zero, List.set_cons_succ, i64_w, i32_w]
      rfl
     refine one_ (i := 14) (N := some 150) #[tt_,tt_,tt_,tt_,tt_,tt_,tt_,tt_,tt_,tt_,tt_,tt_,tt_,tt_,tt_,ff_,ff_,ff_,ff_,ff_,ff_,ff_,ff_,ff_,ff_] rfl rfl (by kernel_rfl) (by decide) (fun K hK => ?_)
     refine goes_ Try.func14 (by kernel_rfl) rfl #[.pointer (some ⟨g, 0, none⟩), .int .u32 (q : Int), .agg #[.int .u32 (pX : Int), .int .u32 (b1 : Int), .bool pH]] (by rfl) rfl rfl (by (try simp only [List.map_toArray, List.map_cons, List.map_nil]); rfl) ?_
     refine (HK2.out _ ⟨pX, b1, pH⟩ false HX1.out.1 (below_step HB3.out B_11.out) N2.out).mono ?_
     rintro e w12 ⟨rfl, hb⟩
     refine ⟨_, rfl, ?_⟩
     have B_12 := Aside0.mk (below_step B_11.out hb)
     have P_12 := Aside0.mk (blk_below P_11.out hb)
     have N_12 := Aside0.mk (blk_below N_11.out hb)
     have O_12 := Aside0.mk (blk_below O_11.out hb)
     have H_12 := Aside0.mk (blk_below H_11.out hb)
     clear P_11 N_11 O_11 H_11
     clear hb
     refine hK.out _ _ ⟨HCX.out _ (below_step HB3.out B_12.out), (blk_cell N_12.out 0).trans rfl, (blk_cell N_12.out 1).trans rfl, (blk_cell N_12.out 2).trans rfl, (blk_cell O_12.out 0).trans rfl, (blk_cell O_12.out 1).trans rfl, (blk_cell O_12.out 2).trans rfl, (blk_cell H_12.out 0).trans rfl, (blk_cell H_12.out 1).trans rfl, (blk_cell H_12.out 2).trans rfl⟩ (fun hHeld => ?_)
     clear hK K
     refine norm_ (a' := ?_) ?_ ?_
     rotate_left
     ·show Act.put _ (some 150) _ = _
      simp only [Act.put, List.setIfInBounds_toArray, List.set_cons_zero, List.set_cons_succ, i64_w, i32_w]
      rfl
     refine pure_ (i := 15) (N := some 151) (v := ?_) (a' := ?_) #[tt_,tt_,tt_,tt_,tt_,tt_,tt_,tt_,tt_,tt_,tt_,tt_,tt_,tt_,tt_,tt_,ff_,ff_,ff_,ff_,ff_,ff_,ff_,ff_,ff_] rfl rfl (by kernel_rfl) (fun _ _ _ h => h) (Or.inl ⟨by rfl, ?_⟩) ?_ ?_
     rotate_left
     ·intro w'
      go_simp
      with_reducible rfl
     rotate_left
     ·simp only [Act.put, List.setIfInBounds_toArray, List.set_cons_zero, List.set_cons_succ, i64_w, i32_w]
      rfl
     refine pure_ (i := 16) (N := some 152) (v := ?_) (a' := ?_) #[tt_,tt_,tt_,tt_,tt_,tt_,tt_,tt_,tt_,tt_,tt_,tt_,tt_,tt_,tt_,tt_,tt_,ff_,ff_,ff_,ff_,ff_,ff_,ff_,ff_] rfl rfl (by kernel_rfl) (fun _ _ _ h => h) (Or.inl ⟨by rfl, ?_⟩) ?_ ?_
     rotate_left
     ·intro w'
      go_simp
      with_reducible rfl
     rotate_left
     ·simp only [Act.put, List.setIfInBounds_toArray, List.set_cons_zero, List.set_cons_succ, i64_w, i32_w]
      rfl
     refine pure_ (i := 17) (N := some 153) (v := ?_) (a' := ?_) #[tt_,tt_,tt_,tt_,tt_,tt_,tt_,tt_,tt_,tt_,tt_,tt_,tt_,tt_,tt_,tt_,tt_,tt_,ff_,ff_,ff_,ff_,ff_,ff_,ff_] rfl rfl (by kernel_rfl) (fun _ _ _ h => h) (Or.inl ⟨by rfl, ?_⟩) ?_ ?_
     rotate_left
     ·intro w'
      go_simp
      with_reducible rfl
     rotate_left
     ·simp only [Act.put, List.setIfInBounds_toArray, List.set_cons_zero, List.set_cons_succ, i64_w, i32_w]
      rfl
     refine pure_ (i := 18) (N := some 154) (v := ?_) (a' := ?_) #[tt_,tt_,tt_,tt_,tt_,tt_,tt_,tt_,tt_,tt_,tt_,tt_,tt_,tt_,tt_,tt_,tt_,tt_,tt_,ff_,ff_,ff_,ff_,ff_,ff_] rfl rfl (by kernel_rfl) (fun _ _ _ h => h) (Or.inl ⟨by rfl, ?_⟩) ?_ ?_
     rotate_left
     ·intro w'
      go_simp
      with_reducible rfl
     rotate_left
     ·simp only [Act.put, List.setIfInBounds_toArray, List.set_cons_zero, List.set_cons_succ, i64_w, i32_w]
      rfl
     refine pure_ (i := 19) (N := some 155) (v := ?_) (a' := ?_) #[tt_,tt_,tt_,tt_,tt_,tt_,tt_,tt_,tt_,tt_,tt_,tt_,tt_,tt_,tt_,tt_,tt_,tt_,tt_,tt_,ff_,ff_,ff_,ff_,ff_] rfl rfl (by kernel_rfl) (fun _ _ _ h => h) (Or.inl ⟨by rfl, ?_⟩) ?_ ?_
     rotate_left
     ·intro w'
      go_simp
      with_reducible rfl
     rotate_left
     ·simp only [Act.put, List.setIfInBounds_toArray, List.set_cons_zero, List.set_cons_succ, i64_w, i32_w]
      rfl
     refine pure_ (i := 20) (N := some 156) (v := ?_) (a' := ?_) #[tt_,tt_,tt_,tt_,tt_,tt_,tt_,tt_,tt_,tt_,tt_,tt_,tt_,tt_,tt_,tt_,tt_,tt_,tt_,tt_,tt_,ff_,ff_,ff_,ff_] rfl rfl (by kernel_rfl) (fun _ _ _ h => h) (Or.inl ⟨by rfl, ?_⟩) ?_ ?_
     rotate_left
     ·intro w'
      go_simp
      with_reducible rfl
     rotate_left
     ·simp only [Act.put, List.setIfInBounds_toArray, List.set_cons_zero, List.set_cons_succ, i64_w, i32_w]
      rfl
     refine take_ (i := 21) (N := some 157) (v := ?_) (a' := ?_) #[tt_,tt_,tt_,tt_,tt_,tt_,tt_,tt_,tt_,tt_,tt_,tt_,tt_,tt_,tt_,tt_,tt_,tt_,tt_,tt_,tt_,tt_,ff_,ff_,ff_] rfl rfl (by kernel_rfl) (fun _ _ _ h => h) (Or.inl ⟨by rfl, ?_⟩) hHeld ?_ ?_
     rotate_left
     ·rintro w' ⟨s0, s1, s2, s3, s4, s5, s6, s7, s8, s9⟩
      go_simp
      with_reducible rfl
     rotate_left
     ·simp only [Act.put, List.setIfInBounds_toArray, List.set_cons_zero, List.set_cons_succ, i64_w, i32_w]
      rfl
     refine take_ (i := 22) (N := some 158) (v := ?_) (a' := ?_) #[tt_,tt_,tt_,tt_,tt_,tt_,tt_,tt_,tt_,tt_,tt_,tt_,tt_,tt_,tt_,tt_,tt_,tt_,tt_,tt_,tt_,tt_,tt_,ff_,ff_] rfl rfl (by kernel_rfl) (fun _ _ _ h => h) (Or.inl ⟨by rfl, ?_⟩) hHeld ?_ ?_
     rotate_left
     ·rintro w' ⟨s0, s1, s2, s3, s4, s5, s6, s7, s8, s9⟩
      go_simp
      with_reducible rfl
     rotate_left
     ·simp only [Act.put, List.setIfInBounds_toArray, List.set_cons_zero, List.set_cons_succ, i64_w, i32_w]
      rfl
     refine one_ (i := 23) (N := some 159) #[tt_,tt_,tt_,tt_,tt_,tt_,tt_,tt_,tt_,tt_,tt_,tt_,tt_,tt_,tt_,tt_,tt_,tt_,tt_,tt_,tt_,tt_,tt_,tt_,ff_] rfl rfl (by kernel_rfl) (by decide) (fun K hK => ?_)
     refine goes_ Try.func14 (by kernel_rfl) rfl #[.pointer (some ⟨g, 0, none⟩), .int .u32 (q : Int), .agg #[.int .u32 (pX : Int), .int .u32 (pB : Int), .bool h1]] (by rfl) rfl rfl (by (try simp only [List.map_toArray, List.map_cons, List.map_nil]); rfl) ?_
     refine (HK2.out _ ⟨pX, pB, h1⟩ false HX1.out.1 (below_step HB3.out B_12.out) N3.out).mono ?_
     rintro e w13 ⟨rfl, hb⟩
     refine ⟨_, rfl, ?_⟩
     have B_13 := Aside0.mk (below_step B_12.out hb)
     have P_13 := Aside0.mk (blk_below P_12.out hb)
     have N_13 := Aside0.mk (blk_below N_12.out hb)
     have O_13 := Aside0.mk (blk_below O_12.out hb)
     have H_13 := Aside0.mk (blk_below H_12.out hb)
     clear P_12 N_12 O_12 H_12
     clear hb
     refine hK.out _ _ ⟨HCX.out _ (below_step HB3.out B_13.out), (blk_cell N_13.out 0).trans rfl, (blk_cell N_13.out 1).trans rfl, (blk_cell N_13.out 2).trans rfl, (blk_cell O_13.out 0).trans rfl, (blk_cell O_13.out 1).trans rfl, (blk_cell O_13.out 2).trans rfl, (blk_cell H_13.out 0).trans rfl, (blk_cell H_13.out 1).trans rfl, (blk_cell H_13.out 2).trans rfl⟩ (fun hHeld => ?_)
     clear hK K
     refine norm_ (a' := ?_) ?_ ?_
     rotate_left
     ·show Act.put _ (some 159) _ = _
      simp only [Act.put, List.setIfInBounds_toArray, List.set_cons_zero, List.set_cons_succ, i64_w, i32_w]
      rfl
     refine pure_ (i := 24) (N := some 160) (v := ?_) (a' := ?_) #[tt_,tt_,tt_,tt_,tt_,tt_,tt_,tt_,tt_,tt_,tt_,tt_,tt_,tt_,tt_,tt_,tt_,tt_,tt_,tt_,tt_,tt_,tt_,tt_,tt_] rfl rfl (by kernel_rfl) (fun _ _ _ h => h) (Or.inl ⟨by rfl, ?_⟩) ?_ ?_
     rotate_left
     ·intro w'
      go_simp
      with_reducible rfl
     rotate_left
     ·simp only [Act.put, List.setIfInBounds_toArray, List.set_cons_zero, List.set_cons_succ, i64_w, i32_w]
      rfl
     refine done_ (by kernel_rfl) ?_
     go_wp2
     go_roundg (m - (i + 1))
     case measure => have := HIN.out; omega
     case rel => exact ⟨i + 1, by first | rfl | (congr 1; omega), HIN.out, by omega, ⟨below_step HHB.out (below_step HB3.out B_13.out)⟩⟩

end Go.Proofs.Ytkicfaboibfbpaa.A
end
section
set_option linter.unusedVariables false
set_option linter.unusedSimpArgs false
namespace Go.Proofs.Ytkicfaboibfbpaa.A
open Go.RowKit Go.Proofs.YtkicfaboibfbpaaW.PrintWords Go.Proofs.YtkicfaboibfbpaaW.PrintLast Go.Proofs.YtkicfaboibfbpaaW.PrintMore Go.Proofs.Ytkicfaboibfbpaa.PCurveAts
set_option maxHeartbeats 4000000 in
theorem curveLeasts (A1 : Option Addr) (c1 : Nat) (l : List (Nat × Nat)) (A2 : Option Addr) (c2 : Nat) (xs : List Nat) (A3 : Option Addr) (c3 : Nat) (ps : List Pf) (w : World) (hK : Kn w A1 l) (hc1 : l.length ≤ c1) (hl : kok l) (hX : Ws w A2 xs) (hc2 : xs.length ≤ c2) (hx : ∀ i, gt xs i < 4294967296) (hP : Ps w A3 ps) (hc3 : ps.length ≤ c3) (hpw : ∀ p ∈ ps, p.X < 4294967296 ∧ p.B < 4294967296) :
    Calls Try.prog 4 #[.slice A1 l.length c1, .slice A2 xs.length c2, .slice A3 ps.length c3] w fun e w' => e = .returned (.bool true) ∧ Below w.heap.size w w' := by
 by_cases g1 : 200 < l.length
 ·obtain ⟨n, hn⟩ : ∃ n, l.length = n := ⟨_, rfl⟩
  obtain ⟨m, hm⟩ : ∃ n, xs.length = n := ⟨_, rfl⟩
  obtain ⟨k, hk⟩ : ∃ n, ps.length = n := ⟨_, rfl⟩
  rw [hn] at g1 ⊢
  have d1 : decide ((n : Int) > 200) = true := decide_eq_true (by omega)
  have d2 : (200 < n) = True := eq_true (by omega)
  clear hK hc1 hl hX hc2 hx hP hc3 hpw hn hm hk g1
  go_enter Try.func4, Try.ntmps4
  go_wp2_with (first | (go_at_call 10; (with_reducible refine (known_calls _).mono ?_); rintro e w1 ⟨rfl, hb⟩; have B1 := Aside0.mk hb; clear hb))
  go_ret
  exact ⟨rfl, B1.out⟩
 by_cases g2 : 100 < xs.length
 ·obtain ⟨n, hn⟩ : ∃ n, l.length = n := ⟨_, rfl⟩
  obtain ⟨m, hm⟩ : ∃ n, xs.length = n := ⟨_, rfl⟩
  obtain ⟨k, hk⟩ : ∃ n, ps.length = n := ⟨_, rfl⟩
  rw [hn] at g1 ⊢; rw [hm] at g2 ⊢
  have d1 : decide ((n : Int) > 200) = false := decide_eq_false (by omega)
  have d2 : (200 < n) = False := eq_false (by omega)
  have d3 : decide ((m : Int) > 100) = true := decide_eq_true (by omega)
  have d4 : (100 < m) = True := eq_true (by omega)
  clear hK hc1 hl hX hc2 hx hP hc3 hpw hn hm hk g1 g2
  go_enter Try.func4, Try.ntmps4
  go_wp2_with (first | (go_at_call 10; (with_reducible refine (known_calls _).mono ?_); rintro e w1 ⟨rfl, hb⟩; have B1 := Aside0.mk hb; clear hb))
  go_ret
  exact ⟨rfl, B1.out⟩
 by_cases g3 : 100 < ps.length
 ·obtain ⟨n, hn⟩ : ∃ n, l.length = n := ⟨_, rfl⟩
  obtain ⟨m, hm⟩ : ∃ n, xs.length = n := ⟨_, rfl⟩
  obtain ⟨k, hk⟩ : ∃ n, ps.length = n := ⟨_, rfl⟩
  rw [hn] at g1 ⊢; rw [hm] at g2 ⊢; rw [hk] at g3 ⊢
  have d1 : decide ((n : Int) > 200) = false := decide_eq_false (by omega)
  have d2 : (200 < n) = False := eq_false (by omega)
  have d3 : decide ((m : Int) > 100) = false := decide_eq_false (by omega)
  have d4 : (100 < m) = False := eq_false (by omega)
  have d5 : decide ((k : Int) > 100) = true := decide_eq_true (by omega)
  have d6 : (100 < k) = True := eq_true (by omega)
  clear hK hc1 hl hX hc2 hx hP hc3 hpw hn hm hk g1 g2 g3
  go_enter Try.func4, Try.ntmps4
  go_wp2_with (first | (go_at_call 10; (with_reducible refine (known_calls _).mono ?_); rintro e w1 ⟨rfl, hb⟩; have B1 := Aside0.mk hb; clear hb))
  go_ret
  exact ⟨rfl, B1.out⟩
 by_cases h0 : chk l = 0
 ·exact curveLeasts_main A1 c1 l A2 c2 xs A3 c3 ps w hK hc1 hl hX hc2 hx hP hc3 hpw g1 g2 g3 h0
 ·have HMK : Aside0 (∀ W, Below w.heap.size w W → Calls Try.prog 11 #[.slice A1 l.length c1] W fun e w' => e = .returned (.tuple #[.pointer none, .bool false, .bool true]) ∧ Below W.heap.size W w') := ⟨fun W hb => makes_bad A1 c1 l hl (by omega) hc1 h0 W (hK.below hb)⟩
  obtain ⟨n, hn⟩ : ∃ n, l.length = n := ⟨_, rfl⟩
  obtain ⟨m, hm⟩ : ∃ n, xs.length = n := ⟨_, rfl⟩
  obtain ⟨k, hk⟩ : ∃ n, ps.length = n := ⟨_, rfl⟩
  rw [hn] at HMK g1 ⊢; rw [hm] at g2 ⊢; rw [hk] at g3 ⊢
  have d1 : decide ((n : Int) > 200) = false := decide_eq_false (by omega)
  have d2 : (200 < n) = False := eq_false (by omega)
  have d3 : decide ((m : Int) > 100) = false := decide_eq_false (by omega)
  have d4 : (100 < m) = False := eq_false (by omega)
  have d5 : decide ((k : Int) > 100) = false := decide_eq_false (by omega)
  have d6 : (100 < k) = False := eq_false (by omega)
  clear hK hc1 hl hX hc2 hx hP hc3 hpw hn hm hk g1 g2 g3 h0
  go_enter Try.func4, Try.ntmps4
  go_wp2_with (first | (go_at_call 10; (with_reducible refine (known_calls _).mono ?_); rintro e w1 ⟨rfl, hb⟩; have B1 := Aside0.mk hb; clear hb) | (go_at_call 11; (with_reducible refine (HMK.out w1 B1.out).mono ?_); rintro e w2 ⟨rfl, hb⟩; have B2 := Aside0.mk (below_step B1.out hb); clear hb))
  go_ret
  exact ⟨rfl, B2.out⟩
end Go.Proofs.Ytkicfaboibfbpaa.A
end
