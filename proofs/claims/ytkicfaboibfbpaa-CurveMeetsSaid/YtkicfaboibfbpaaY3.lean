import Derived.Test.YtkicfaboibfbpaaY2
import Derived.ChangeSlices
import Derived.Deep.Slices
import Derived.Lib.SliceRun
import Derived.Lib.SmallJoins
import Derived.SizedLaws
import Derived.Test.YtkicfaboibfbpaaRows
import Derived.WalkSpells
section
set_option linter.unusedVariables false
set_option linter.unusedSimpArgs false
namespace Go.Proofs.Ytkicfaboibfbpaa.A
open Go.RowKit Go.Proofs.YtkicfaboibfbpaaW.PrintWords Go.Proofs.YtkicfaboibfbpaaW.PrintLast Go.Proofs.YtkicfaboibfbpaaW.PrintMore Go.Proofs.Ytkicfaboibfbpaa.PCurveAts
set_option maxHeartbeats 4000000 in
theorem reachesc_calls (g x y : Nat) (F : Nat → Nat) (w : World) (hx : x < 4294967296) (hy : y < 4294967296) (hF : ∀ x, x < 4294967296 → F x < 4294967296) (hA : ∀ (W : World) (x : Nat), x < 4294967296 → Below w.heap.size w W → Calls Try.prog 17 #[.pointer (some ⟨g, 0, none⟩), .int .u32 (x : Int)] W fun e w' => e = .returned (.int .u32 ((F x : Nat) : Int)) ∧ Below W.heap.size W w') :
    Calls Try.prog 60 #[.iface 26 (.pointer (some ⟨g, 0, none⟩)), .int .u32 (x : Int), .int .u32 (y : Int)] w fun e w' => e = .returned (.bool (rch F x y)) ∧ Below w.heap.size w w' := by
 have HA := Aside0.mk hA
 have HX := Aside0.mk hx
 have HY := Aside0.mk hy
 have HV : Aside0 (F x < 4294967296) := ⟨hF x hx⟩
 have B_0 : Aside0 (Below w.heap.size w w) := ⟨Below.refl _ _⟩
 have hm : ∀ w, (method 213 26 (.pointer (some ⟨g, 0, none⟩)) "At").run Try.prog w = .ok (17, .pointer (some ⟨g, 0, none⟩)) w := fun _ => by kernel_rfl
 have hn : ∀ w, (nilAhead 213 26 (.pointer (some ⟨g, 0, none⟩)) "At").run Try.prog w = .ok (some false) w := fun _ => by kernel_rfl
 clear hA hx hy hF
 unfold rch
 cases c1 : lt y (F x)
 ·rw [Bool.false_or]
  go_enter Try.func60, Try.ntmps60
  go_wp2_with (first | (go_at_call 17; (with_reducible refine (HA.out _ x HX.out (Below.refl _ _)).mono ?_); rintro e w1 ⟨rfl, hb⟩; have B_1 := Aside0.mk (below_step B_0.out hb); clear hb) | (go_at_call 45; with_reducible refine (Less_calls y (F x) HY.out HV.out _).mono ?_; rw [c1]; rintro e _ ⟨rfl, rfl⟩) | (go_at_call 48; with_reducible refine (Equal_calls y (F x) HY.out HV.out _).mono ?_; rintro e _ ⟨rfl, rfl⟩))
  go_ret
  exact ⟨rfl, B_1.out⟩
 ·rw [Bool.true_or]
  go_enter Try.func60, Try.ntmps60
  go_wp2_with (first | (go_at_call 17; (with_reducible refine (HA.out _ x HX.out (Below.refl _ _)).mono ?_); rintro e w1 ⟨rfl, hb⟩; have B_1 := Aside0.mk (below_step B_0.out hb); clear hb) | (go_at_call 45; with_reducible refine (Less_calls y (F x) HY.out HV.out _).mono ?_; rw [c1]; rintro e _ ⟨rfl, rfl⟩))
  go_ret
  exact ⟨rfl, B_1.out⟩
set_option maxHeartbeats 8000000 in
theorem provedc_calls (g lo hi y X B : Nat) (H : Bool) (F : Nat → Nat) (w : World) (hlo : lo < 4294967296) (hhi : hi < 4294967296) (hy : y < 4294967296) (hX : X < 4294967296) (hF : ∀ x, x < 4294967296 → F x < 4294967296) (hA : ∀ (W : World) (x : Nat), x < 4294967296 → Below w.heap.size w W → Calls Try.prog 17 #[.pointer (some ⟨g, 0, none⟩), .int .u32 (x : Int)] W fun e w' => e = .returned (.int .u32 ((F x : Nat) : Int)) ∧ Below W.heap.size W w') :
    Calls Try.prog 42 #[.iface 26 (.pointer (some ⟨g, 0, none⟩)), .int .u32 (lo : Int), .int .u32 (hi : Int), .int .u32 (y : Int), .agg #[.int .u32 (X : Int), .int .u32 (B : Int), .bool H]] w fun e w' => e = .returned (.bool (ckP F lo hi y ⟨X, B, H⟩)) ∧ Below w.heap.size w w' := by
 have HA := Aside0.mk hA
 have HF := Aside0.mk hF
 have HX := Aside0.mk hX
 have HY := Aside0.mk hy
 have HLO := Aside0.mk hlo
 have HHI := Aside0.mk hhi
 unfold ckP
 simp only
 have B_0 : Aside0 (Below w.heap.size w w) := ⟨Below.refl _ _⟩
 clear hA hF hX hy hlo hhi
 cases c0 : isnan y
 ·rw [if_neg (show ¬ (false = true) by decide)]
  by_cases d1 : kf X < kf lo
  ·have c1 := decide_eq_true d1
   rw [if_pos d1]
   clear d1
   go_enter Try.func42, Try.ntmps42
   go_wp2_with (first | ((with_reducible refine gate_dst (N := 9) rfl ?_); refine box_event ?hg (N := 9) ?hd (cs := #[.int .u32 (X : Int), .int .u32 (B : Int), .bool H]) (t := 32) ?hr ?_; (case hd => rfl); (case hg => rfl); (case hr => first | (go_simp; done) | (go_simp; rfl)); intro gp hg_ w1 hm_ hb_; have GP := Aside0.mk (show w.heap.size ≤ gp by rw [hg_]; exact B_0.out.size); have B_1 := Aside0.mk (below_step B_0.out hb_); have P_1 := Aside0.mk (hm_); have cP0 := (blk_cell P_1.out 0).trans rfl; have cP1 := (blk_cell P_1.out 1).trans rfl; have cP2 := (blk_cell P_1.out 2).trans rfl; clear hm_ hb_ hg_) | (go_at_call 44; (with_reducible refine (IsNaN_calls y HY.out _).mono ?_); rw [c0]; rintro e w2 ⟨rfl, hb⟩; clear cP0 cP1 cP2; have B_2 := Aside0.mk (below_step B_1.out hb); have P_2 := Aside0.mk (blk_below P_1.out hb); clear P_1; have cP0 := (blk_cell P_2.out 0).trans rfl; have cP1 := (blk_cell P_2.out 1).trans rfl; have cP2 := (blk_cell P_2.out 2).trans rfl; clear hb) | (go_at_call 59; (with_reducible refine (Before_calls X lo HX.out HLO.out _).mono ?_); rw [c1]; rintro e w3 ⟨rfl, hd⟩; have hb := hd.below; clear hd; clear cP0 cP1 cP2; have B_3 := Aside0.mk (below_step B_2.out hb); have P_3 := Aside0.mk (blk_below P_2.out hb); clear P_2; have cP0 := (blk_cell P_3.out 0).trans rfl; have cP1 := (blk_cell P_3.out 1).trans rfl; have cP2 := (blk_cell P_3.out 2).trans rfl; clear hb))
   go_ret
   exact ⟨rfl, B_3.out⟩
  have c1 := decide_eq_false d1
  rw [if_neg d1]
  clear d1
  by_cases d2 : kf hi < kf X
  ·have c2 := decide_eq_true d2
   rw [if_pos d2]
   clear d2
   go_enter Try.func42, Try.ntmps42
   go_wp2_with (first | ((with_reducible refine gate_dst (N := 9) rfl ?_); refine box_event ?hg (N := 9) ?hd (cs := #[.int .u32 (X : Int), .int .u32 (B : Int), .bool H]) (t := 32) ?hr ?_; (case hd => rfl); (case hg => rfl); (case hr => first | (go_simp; done) | (go_simp; rfl)); intro gp hg_ w1 hm_ hb_; have GP := Aside0.mk (show w.heap.size ≤ gp by rw [hg_]; exact B_0.out.size); have B_1 := Aside0.mk (below_step B_0.out hb_); have P_1 := Aside0.mk (hm_); have cP0 := (blk_cell P_1.out 0).trans rfl; have cP1 := (blk_cell P_1.out 1).trans rfl; have cP2 := (blk_cell P_1.out 2).trans rfl; clear hm_ hb_ hg_) | (go_at_call 44; (with_reducible refine (IsNaN_calls y HY.out _).mono ?_); rw [c0]; rintro e w2 ⟨rfl, hb⟩; clear cP0 cP1 cP2; have B_2 := Aside0.mk (below_step B_1.out hb); have P_2 := Aside0.mk (blk_below P_1.out hb); clear P_1; have cP0 := (blk_cell P_2.out 0).trans rfl; have cP1 := (blk_cell P_2.out 1).trans rfl; have cP2 := (blk_cell P_2.out 2).trans rfl; clear hb) | (go_at_call 59; (with_reducible refine (Before_calls X lo HX.out HLO.out _).mono ?_); rw [c1]; rintro e w3 ⟨rfl, hd⟩; have hb := hd.below; clear hd; clear cP0 cP1 cP2; have B_3 := Aside0.mk (below_step B_2.out hb); have P_3 := Aside0.mk (blk_below P_2.out hb); clear P_2; have cP0 := (blk_cell P_3.out 0).trans rfl; have cP1 := (blk_cell P_3.out 1).trans rfl; have cP2 := (blk_cell P_3.out 2).trans rfl; clear hb) | (go_at_call 59; (with_reducible refine (Before_calls hi X HHI.out HX.out _).mono ?_); rw [c2]; rintro e w4 ⟨rfl, hd⟩; have hb := hd.below; clear hd; clear cP0 cP1 cP2; have B_4 := Aside0.mk (below_step B_3.out hb); have P_4 := Aside0.mk (blk_below P_3.out hb); clear P_3; have cP0 := (blk_cell P_4.out 0).trans rfl; have cP1 := (blk_cell P_4.out 1).trans rfl; have cP2 := (blk_cell P_4.out 2).trans rfl; clear hb))
   go_ret
   exact ⟨rfl, B_4.out⟩
  have c2 := decide_eq_false d2
  rw [if_neg d2]
  clear d2
  cases c3 : rch F X y
  ·rw [if_pos rfl]
   go_enter Try.func42, Try.ntmps42
   go_wp2_with (first | ((with_reducible refine gate_dst (N := 9) rfl ?_); refine box_event ?hg (N := 9) ?hd (cs := #[.int .u32 (X : Int), .int .u32 (B : Int), .bool H]) (t := 32) ?hr ?_; (case hd => rfl); (case hg => rfl); (case hr => first | (go_simp; done) | (go_simp; rfl)); intro gp hg_ w1 hm_ hb_; have GP := Aside0.mk (show w.heap.size ≤ gp by rw [hg_]; exact B_0.out.size); have B_1 := Aside0.mk (below_step B_0.out hb_); have P_1 := Aside0.mk (hm_); have cP0 := (blk_cell P_1.out 0).trans rfl; have cP1 := (blk_cell P_1.out 1).trans rfl; have cP2 := (blk_cell P_1.out 2).trans rfl; clear hm_ hb_ hg_) | (go_at_call 44; (with_reducible refine (IsNaN_calls y HY.out _).mono ?_); rw [c0]; rintro e w2 ⟨rfl, hb⟩; clear cP0 cP1 cP2; have B_2 := Aside0.mk (below_step B_1.out hb); have P_2 := Aside0.mk (blk_below P_1.out hb); clear P_1; have cP0 := (blk_cell P_2.out 0).trans rfl; have cP1 := (blk_cell P_2.out 1).trans rfl; have cP2 := (blk_cell P_2.out 2).trans rfl; clear hb) | (go_at_call 59; (with_reducible refine (Before_calls X lo HX.out HLO.out _).mono ?_); rw [c1]; rintro e w3 ⟨rfl, hd⟩; have hb := hd.below; clear hd; clear cP0 cP1 cP2; have B_3 := Aside0.mk (below_step B_2.out hb); have P_3 := Aside0.mk (blk_below P_2.out hb); clear P_2; have cP0 := (blk_cell P_3.out 0).trans rfl; have cP1 := (blk_cell P_3.out 1).trans rfl; have cP2 := (blk_cell P_3.out 2).trans rfl; clear hb) | (go_at_call 59; (with_reducible refine (Before_calls hi X HHI.out HX.out _).mono ?_); rw [c2]; rintro e w4 ⟨rfl, hd⟩; have hb := hd.below; clear hd; clear cP0 cP1 cP2; have B_4 := Aside0.mk (below_step B_3.out hb); have P_4 := Aside0.mk (blk_below P_3.out hb); clear P_3; have cP0 := (blk_cell P_4.out 0).trans rfl; have cP1 := (blk_cell P_4.out 1).trans rfl; have cP2 := (blk_cell P_4.out 2).trans rfl; clear hb) | (go_at_call 60; (with_reducible refine (reachesc_calls g X y F _ HX.out HY.out HF.out (fun W2 x hx h2 => HA.out W2 x hx (B_4.out.trans (h2.mono B_4.out.size)))).mono ?_); rw [c3]; rintro e w5 ⟨rfl, hb⟩; clear cP0 cP1 cP2; have B_5 := Aside0.mk (below_step B_4.out hb); have P_5 := Aside0.mk (blk_below P_4.out hb); clear P_4; have cP0 := (blk_cell P_5.out 0).trans rfl; have cP1 := (blk_cell P_5.out 1).trans rfl; have cP2 := (blk_cell P_5.out 2).trans rfl; clear hb))
   go_ret
   exact ⟨rfl, B_5.out⟩
  rw [if_neg (show ¬ (true = false) by decide)]
  have main : ∀ b : Bool, ((X : Int) != (lo : Int)) = b → decide (X ≠ lo) = b → Calls Try.prog 42 #[.iface 26 (.pointer (some ⟨g, 0, none⟩)), .int .u32 (lo : Int), .int .u32 (hi : Int), .int .u32 (y : Int), .agg #[.int .u32 (X : Int), .int .u32 (B : Int), .bool H]] w fun e w' => e = .returned (.bool (if H ≠ decide (X ≠ lo) then false
 else if H = false then decide (B = 0) else decide (kf X ≠ 0) && (decide (B = (if kf X = 0 then 0 else fk (kf X - 1))) && !rch F (if kf X = 0 then 0 else fk (kf X - 1)) y))) ∧ Below w.heap.size w w' := by
     intro b e1 e2
     rw [e2]
     clear e2
     cases b <;> cases H
     ·rw [if_neg (show ¬ (false ≠ false) from fun h => h rfl), if_pos rfl]
      have e4 : ((B : Int) == 0) = decide (B = 0) := by rw [Bool.eq_iff_iff, beq_iff_eq, decide_eq_true_iff]; omega
      rw [← e4]
      clear e4
      go_enter Try.func42, Try.ntmps42
      go_wp2_with (first | ((with_reducible refine gate_dst (N := 9) rfl ?_); refine box_event ?hg (N := 9) ?hd (cs := #[.int .u32 (X : Int), .int .u32 (B : Int), .bool false]) (t := 32) ?hr ?_; (case hd => rfl); (case hg => rfl); (case hr => first | (go_simp; done) | (go_simp; rfl)); intro gp hg_ w1 hm_ hb_; have GP := Aside0.mk (show w.heap.size ≤ gp by rw [hg_]; exact B_0.out.size); have B_1 := Aside0.mk (below_step B_0.out hb_); have P_1 := Aside0.mk (hm_); have cP0 := (blk_cell P_1.out 0).trans rfl; have cP1 := (blk_cell P_1.out 1).trans rfl; have cP2 := (blk_cell P_1.out 2).trans rfl; clear hm_ hb_ hg_) | (go_at_call 44; (with_reducible refine (IsNaN_calls y HY.out _).mono ?_); rw [c0]; rintro e w2 ⟨rfl, hb⟩; clear cP0 cP1 cP2; have B_2 := Aside0.mk (below_step B_1.out hb); have P_2 := Aside0.mk (blk_below P_1.out hb); clear P_1; have cP0 := (blk_cell P_2.out 0).trans rfl; have cP1 := (blk_cell P_2.out 1).trans rfl; have cP2 := (blk_cell P_2.out 2).trans rfl; clear hb) | (go_at_call 59; (with_reducible refine (Before_calls X lo HX.out HLO.out _).mono ?_); rw [c1]; rintro e w3 ⟨rfl, hd⟩; have hb := hd.below; clear hd; clear cP0 cP1 cP2; have B_3 := Aside0.mk (below_step B_2.out hb); have P_3 := Aside0.mk (blk_below P_2.out hb); clear P_2; have cP0 := (blk_cell P_3.out 0).trans rfl; have cP1 := (blk_cell P_3.out 1).trans rfl; have cP2 := (blk_cell P_3.out 2).trans rfl; clear hb) | (go_at_call 59; (with_reducible refine (Before_calls hi X HHI.out HX.out _).mono ?_); rw [c2]; rintro e w4 ⟨rfl, hd⟩; have hb := hd.below; clear hd; clear cP0 cP1 cP2; have B_4 := Aside0.mk (below_step B_3.out hb); have P_4 := Aside0.mk (blk_below P_3.out hb); clear P_3; have cP0 := (blk_cell P_4.out 0).trans rfl; have cP1 := (blk_cell P_4.out 1).trans rfl; have cP2 := (blk_cell P_4.out 2).trans rfl; clear hb) | (go_at_call 60; (with_reducible refine (reachesc_calls g X y F _ HX.out HY.out HF.out (fun W2 x hx h2 => HA.out W2 x hx (B_4.out.trans (h2.mono B_4.out.size)))).mono ?_); rw [c3]; rintro e w5 ⟨rfl, hb⟩; clear cP0 cP1 cP2; have B_5 := Aside0.mk (below_step B_4.out hb); have P_5 := Aside0.mk (blk_below P_4.out hb); clear P_4; have cP0 := (blk_cell P_5.out 0).trans rfl; have cP1 := (blk_cell P_5.out 1).trans rfl; have cP2 := (blk_cell P_5.out 2).trans rfl; clear hb))
      go_ret
      exact ⟨rfl, B_5.out⟩
     ·rw [if_pos (show true ≠ false by decide)]
      go_enter Try.func42, Try.ntmps42
      go_wp2_with (first | ((with_reducible refine gate_dst (N := 9) rfl ?_); refine box_event ?hg (N := 9) ?hd (cs := #[.int .u32 (X : Int), .int .u32 (B : Int), .bool true]) (t := 32) ?hr ?_; (case hd => rfl); (case hg => rfl); (case hr => first | (go_simp; done) | (go_simp; rfl)); intro gp hg_ w1 hm_ hb_; have GP := Aside0.mk (show w.heap.size ≤ gp by rw [hg_]; exact B_0.out.size); have B_1 := Aside0.mk (below_step B_0.out hb_); have P_1 := Aside0.mk (hm_); have cP0 := (blk_cell P_1.out 0).trans rfl; have cP1 := (blk_cell P_1.out 1).trans rfl; have cP2 := (blk_cell P_1.out 2).trans rfl; clear hm_ hb_ hg_) | (go_at_call 44; (with_reducible refine (IsNaN_calls y HY.out _).mono ?_); rw [c0]; rintro e w2 ⟨rfl, hb⟩; clear cP0 cP1 cP2; have B_2 := Aside0.mk (below_step B_1.out hb); have P_2 := Aside0.mk (blk_below P_1.out hb); clear P_1; have cP0 := (blk_cell P_2.out 0).trans rfl; have cP1 := (blk_cell P_2.out 1).trans rfl; have cP2 := (blk_cell P_2.out 2).trans rfl; clear hb) | (go_at_call 59; (with_reducible refine (Before_calls X lo HX.out HLO.out _).mono ?_); rw [c1]; rintro e w3 ⟨rfl, hd⟩; have hb := hd.below; clear hd; clear cP0 cP1 cP2; have B_3 := Aside0.mk (below_step B_2.out hb); have P_3 := Aside0.mk (blk_below P_2.out hb); clear P_2; have cP0 := (blk_cell P_3.out 0).trans rfl; have cP1 := (blk_cell P_3.out 1).trans rfl; have cP2 := (blk_cell P_3.out 2).trans rfl; clear hb) | (go_at_call 59; (with_reducible refine (Before_calls hi X HHI.out HX.out _).mono ?_); rw [c2]; rintro e w4 ⟨rfl, hd⟩; have hb := hd.below; clear hd; clear cP0 cP1 cP2; have B_4 := Aside0.mk (below_step B_3.out hb); have P_4 := Aside0.mk (blk_below P_3.out hb); clear P_3; have cP0 := (blk_cell P_4.out 0).trans rfl; have cP1 := (blk_cell P_4.out 1).trans rfl; have cP2 := (blk_cell P_4.out 2).trans rfl; clear hb) | (go_at_call 60; (with_reducible refine (reachesc_calls g X y F _ HX.out HY.out HF.out (fun W2 x hx h2 => HA.out W2 x hx (B_4.out.trans (h2.mono B_4.out.size)))).mono ?_); rw [c3]; rintro e w5 ⟨rfl, hb⟩; clear cP0 cP1 cP2; have B_5 := Aside0.mk (below_step B_4.out hb); have P_5 := Aside0.mk (blk_below P_4.out hb); clear P_4; have cP0 := (blk_cell P_5.out 0).trans rfl; have cP1 := (blk_cell P_5.out 1).trans rfl; have cP2 := (blk_cell P_5.out 2).trans rfl; clear hb))
      go_ret
      exact ⟨rfl, B_5.out⟩
     ·rw [if_pos (show false ≠ true by decide)]
      go_enter Try.func42, Try.ntmps42
      go_wp2_with (first | ((with_reducible refine gate_dst (N := 9) rfl ?_); refine box_event ?hg (N := 9) ?hd (cs := #[.int .u32 (X : Int), .int .u32 (B : Int), .bool false]) (t := 32) ?hr ?_; (case hd => rfl); (case hg => rfl); (case hr => first | (go_simp; done) | (go_simp; rfl)); intro gp hg_ w1 hm_ hb_; have GP := Aside0.mk (show w.heap.size ≤ gp by rw [hg_]; exact B_0.out.size); have B_1 := Aside0.mk (below_step B_0.out hb_); have P_1 := Aside0.mk (hm_); have cP0 := (blk_cell P_1.out 0).trans rfl; have cP1 := (blk_cell P_1.out 1).trans rfl; have cP2 := (blk_cell P_1.out 2).trans rfl; clear hm_ hb_ hg_) | (go_at_call 44; (with_reducible refine (IsNaN_calls y HY.out _).mono ?_); rw [c0]; rintro e w2 ⟨rfl, hb⟩; clear cP0 cP1 cP2; have B_2 := Aside0.mk (below_step B_1.out hb); have P_2 := Aside0.mk (blk_below P_1.out hb); clear P_1; have cP0 := (blk_cell P_2.out 0).trans rfl; have cP1 := (blk_cell P_2.out 1).trans rfl; have cP2 := (blk_cell P_2.out 2).trans rfl; clear hb) | (go_at_call 59; (with_reducible refine (Before_calls X lo HX.out HLO.out _).mono ?_); rw [c1]; rintro e w3 ⟨rfl, hd⟩; have hb := hd.below; clear hd; clear cP0 cP1 cP2; have B_3 := Aside0.mk (below_step B_2.out hb); have P_3 := Aside0.mk (blk_below P_2.out hb); clear P_2; have cP0 := (blk_cell P_3.out 0).trans rfl; have cP1 := (blk_cell P_3.out 1).trans rfl; have cP2 := (blk_cell P_3.out 2).trans rfl; clear hb) | (go_at_call 59; (with_reducible refine (Before_calls hi X HHI.out HX.out _).mono ?_); rw [c2]; rintro e w4 ⟨rfl, hd⟩; have hb := hd.below; clear hd; clear cP0 cP1 cP2; have B_4 := Aside0.mk (below_step B_3.out hb); have P_4 := Aside0.mk (blk_below P_3.out hb); clear P_3; have cP0 := (blk_cell P_4.out 0).trans rfl; have cP1 := (blk_cell P_4.out 1).trans rfl; have cP2 := (blk_cell P_4.out 2).trans rfl; clear hb) | (go_at_call 60; (with_reducible refine (reachesc_calls g X y F _ HX.out HY.out HF.out (fun W2 x hx h2 => HA.out W2 x hx (B_4.out.trans (h2.mono B_4.out.size)))).mono ?_); rw [c3]; rintro e w5 ⟨rfl, hb⟩; clear cP0 cP1 cP2; have B_5 := Aside0.mk (below_step B_4.out hb); have P_5 := Aside0.mk (blk_below P_4.out hb); clear P_4; have cP0 := (blk_cell P_5.out 0).trans rfl; have cP1 := (blk_cell P_5.out 1).trans rfl; have cP2 := (blk_cell P_5.out 2).trans rfl; clear hb))
      go_ret
      exact ⟨rfl, B_5.out⟩
     ·rw [if_neg (show ¬ (true ≠ true) from fun h => h rfl), if_neg (show ¬ (true = false) by decide)]
      obtain ⟨q, hq⟩ : ∃ q, (if kf X = 0 then 0 else fk (kf X - 1)) = q := ⟨_, rfl⟩
      have HQ : Aside0 (q < 4294967296) := ⟨by
       rw [← hq]
       have := kf_word HX.out
       split
       ·decide
       ·exact fk_word (by omega)⟩
      have hpv := hq
      rw [hq]
      have e4 : ((B : Int) == (q : Int)) = decide (B = q) := by rw [Bool.eq_iff_iff, beq_iff_eq, decide_eq_true_iff]; omega
      rw [← e4]
      clear e4 hq
      obtain ⟨t1, h1⟩ : ∃ t, decide (kf X ≠ 0) = t := ⟨_, rfl⟩
      obtain ⟨t2, h2⟩ : ∃ t, ((B : Int) == (q : Int)) = t := ⟨_, rfl⟩
      rw [h1, h2]
      cases t1
      ·go_enter Try.func42, Try.ntmps42
       go_wp2_with (first | ((with_reducible refine gate_dst (N := 9) rfl ?_); refine box_event ?hg (N := 9) ?hd (cs := #[.int .u32 (X : Int), .int .u32 (B : Int), .bool true]) (t := 32) ?hr ?_; (case hd => rfl); (case hg => rfl); (case hr => first | (go_simp; done) | (go_simp; rfl)); intro gp hg_ w1 hm_ hb_; have GP := Aside0.mk (show w.heap.size ≤ gp by rw [hg_]; exact B_0.out.size); have B_1 := Aside0.mk (below_step B_0.out hb_); have P_1 := Aside0.mk (hm_); have cP0 := (blk_cell P_1.out 0).trans rfl; have cP1 := (blk_cell P_1.out 1).trans rfl; have cP2 := (blk_cell P_1.out 2).trans rfl; clear hm_ hb_ hg_) | (go_at_call 44; (with_reducible refine (IsNaN_calls y HY.out _).mono ?_); rw [c0]; rintro e w2 ⟨rfl, hb⟩; clear cP0 cP1 cP2; have B_2 := Aside0.mk (below_step B_1.out hb); have P_2 := Aside0.mk (blk_below P_1.out hb); clear P_1; have cP0 := (blk_cell P_2.out 0).trans rfl; have cP1 := (blk_cell P_2.out 1).trans rfl; have cP2 := (blk_cell P_2.out 2).trans rfl; clear hb) | (go_at_call 59; (with_reducible refine (Before_calls X lo HX.out HLO.out _).mono ?_); rw [c1]; rintro e w3 ⟨rfl, hd⟩; have hb := hd.below; clear hd; clear cP0 cP1 cP2; have B_3 := Aside0.mk (below_step B_2.out hb); have P_3 := Aside0.mk (blk_below P_2.out hb); clear P_2; have cP0 := (blk_cell P_3.out 0).trans rfl; have cP1 := (blk_cell P_3.out 1).trans rfl; have cP2 := (blk_cell P_3.out 2).trans rfl; clear hb) | (go_at_call 59; (with_reducible refine (Before_calls hi X HHI.out HX.out _).mono ?_); rw [c2]; rintro e w4 ⟨rfl, hd⟩; have hb := hd.below; clear hd; clear cP0 cP1 cP2; have B_4 := Aside0.mk (below_step B_3.out hb); have P_4 := Aside0.mk (blk_below P_3.out hb); clear P_3; have cP0 := (blk_cell P_4.out 0).trans rfl; have cP1 := (blk_cell P_4.out 1).trans rfl; have cP2 := (blk_cell P_4.out 2).trans rfl; clear hb) | (go_at_call 60; (with_reducible refine (reachesc_calls g X y F _ HX.out HY.out HF.out (fun W2 x hx h2 => HA.out W2 x hx (B_4.out.trans (h2.mono B_4.out.size)))).mono ?_); rw [c3]; rintro e w5 ⟨rfl, hb⟩; clear cP0 cP1 cP2; have B_5 := Aside0.mk (below_step B_4.out hb); have P_5 := Aside0.mk (blk_below P_4.out hb); clear P_4; have cP0 := (blk_cell P_5.out 0).trans rfl; have cP1 := (blk_cell P_5.out 1).trans rfl; have cP2 := (blk_cell P_5.out 2).trans rfl; clear hb) | (go_at_call 58; (with_reducible refine (Prev_calls X HX.out _).mono ?_); rw [hpv]; rintro e w6 ⟨rfl, hd⟩; have hb := hd.below; clear hd; clear cP0 cP1 cP2; have B_6 := Aside0.mk (below_step B_5.out hb); have P_6 := Aside0.mk (blk_below P_5.out hb); clear P_5; have cP0 := (blk_cell P_6.out 0).trans rfl; have cP1 := (blk_cell P_6.out 1).trans rfl; have cP2 := (blk_cell P_6.out 2).trans rfl; clear hb))
       go_ret
       exact ⟨rfl, B_6.out⟩
      cases t2
      ·go_enter Try.func42, Try.ntmps42
       go_wp2_with (first | ((with_reducible refine gate_dst (N := 9) rfl ?_); refine box_event ?hg (N := 9) ?hd (cs := #[.int .u32 (X : Int), .int .u32 (B : Int), .bool true]) (t := 32) ?hr ?_; (case hd => rfl); (case hg => rfl); (case hr => first | (go_simp; done) | (go_simp; rfl)); intro gp hg_ w1 hm_ hb_; have GP := Aside0.mk (show w.heap.size ≤ gp by rw [hg_]; exact B_0.out.size); have B_1 := Aside0.mk (below_step B_0.out hb_); have P_1 := Aside0.mk (hm_); have cP0 := (blk_cell P_1.out 0).trans rfl; have cP1 := (blk_cell P_1.out 1).trans rfl; have cP2 := (blk_cell P_1.out 2).trans rfl; clear hm_ hb_ hg_) | (go_at_call 44; (with_reducible refine (IsNaN_calls y HY.out _).mono ?_); rw [c0]; rintro e w2 ⟨rfl, hb⟩; clear cP0 cP1 cP2; have B_2 := Aside0.mk (below_step B_1.out hb); have P_2 := Aside0.mk (blk_below P_1.out hb); clear P_1; have cP0 := (blk_cell P_2.out 0).trans rfl; have cP1 := (blk_cell P_2.out 1).trans rfl; have cP2 := (blk_cell P_2.out 2).trans rfl; clear hb) | (go_at_call 59; (with_reducible refine (Before_calls X lo HX.out HLO.out _).mono ?_); rw [c1]; rintro e w3 ⟨rfl, hd⟩; have hb := hd.below; clear hd; clear cP0 cP1 cP2; have B_3 := Aside0.mk (below_step B_2.out hb); have P_3 := Aside0.mk (blk_below P_2.out hb); clear P_2; have cP0 := (blk_cell P_3.out 0).trans rfl; have cP1 := (blk_cell P_3.out 1).trans rfl; have cP2 := (blk_cell P_3.out 2).trans rfl; clear hb) | (go_at_call 59; (with_reducible refine (Before_calls hi X HHI.out HX.out _).mono ?_); rw [c2]; rintro e w4 ⟨rfl, hd⟩; have hb := hd.below; clear hd; clear cP0 cP1 cP2; have B_4 := Aside0.mk (below_step B_3.out hb); have P_4 := Aside0.mk (blk_below P_3.out hb); clear P_3; have cP0 := (blk_cell P_4.out 0).trans rfl; have cP1 := (blk_cell P_4.out 1).trans rfl; have cP2 := (blk_cell P_4.out 2).trans rfl; clear hb) | (go_at_call 60; (with_reducible refine (reachesc_calls g X y F _ HX.out HY.out HF.out (fun W2 x hx h2 => HA.out W2 x hx (B_4.out.trans (h2.mono B_4.out.size)))).mono ?_); rw [c3]; rintro e w5 ⟨rfl, hb⟩; clear cP0 cP1 cP2; have B_5 := Aside0.mk (below_step B_4.out hb); have P_5 := Aside0.mk (blk_below P_4.out hb); clear P_4; have cP0 := (blk_cell P_5.out 0).trans rfl; have cP1 := (blk_cell P_5.out 1).trans rfl; have cP2 := (blk_cell P_5.out 2).trans rfl; clear hb) | (go_at_call 58; (with_reducible refine (Prev_calls X HX.out _).mono ?_); rw [hpv]; rintro e w6 ⟨rfl, hd⟩; have hb := hd.below; clear hd; clear cP0 cP1 cP2; have B_6 := Aside0.mk (below_step B_5.out hb); have P_6 := Aside0.mk (blk_below P_5.out hb); clear P_5; have cP0 := (blk_cell P_6.out 0).trans rfl; have cP1 := (blk_cell P_6.out 1).trans rfl; have cP2 := (blk_cell P_6.out 2).trans rfl; clear hb))
       go_ret
       exact ⟨rfl, B_6.out⟩
      cases c5 : rch F q y
      ·go_enter Try.func42, Try.ntmps42
       go_wp2_with (first | ((with_reducible refine gate_dst (N := 9) rfl ?_); refine box_event ?hg (N := 9) ?hd (cs := #[.int .u32 (X : Int), .int .u32 (B : Int), .bool true]) (t := 32) ?hr ?_; (case hd => rfl); (case hg => rfl); (case hr => first | (go_simp; done) | (go_simp; rfl)); intro gp hg_ w1 hm_ hb_; have GP := Aside0.mk (show w.heap.size ≤ gp by rw [hg_]; exact B_0.out.size); have B_1 := Aside0.mk (below_step B_0.out hb_); have P_1 := Aside0.mk (hm_); have cP0 := (blk_cell P_1.out 0).trans rfl; have cP1 := (blk_cell P_1.out 1).trans rfl; have cP2 := (blk_cell P_1.out 2).trans rfl; clear hm_ hb_ hg_) | (go_at_call 44; (with_reducible refine (IsNaN_calls y HY.out _).mono ?_); rw [c0]; rintro e w2 ⟨rfl, hb⟩; clear cP0 cP1 cP2; have B_2 := Aside0.mk (below_step B_1.out hb); have P_2 := Aside0.mk (blk_below P_1.out hb); clear P_1; have cP0 := (blk_cell P_2.out 0).trans rfl; have cP1 := (blk_cell P_2.out 1).trans rfl; have cP2 := (blk_cell P_2.out 2).trans rfl; clear hb) | (go_at_call 59; (with_reducible refine (Before_calls X lo HX.out HLO.out _).mono ?_); rw [c1]; rintro e w3 ⟨rfl, hd⟩; have hb := hd.below; clear hd; clear cP0 cP1 cP2; have B_3 := Aside0.mk (below_step B_2.out hb); have P_3 := Aside0.mk (blk_below P_2.out hb); clear P_2; have cP0 := (blk_cell P_3.out 0).trans rfl; have cP1 := (blk_cell P_3.out 1).trans rfl; have cP2 := (blk_cell P_3.out 2).trans rfl; clear hb) | (go_at_call 59; (with_reducible refine (Before_calls hi X HHI.out HX.out _).mono ?_); rw [c2]; rintro e w4 ⟨rfl, hd⟩; have hb := hd.below; clear hd; clear cP0 cP1 cP2; have B_4 := Aside0.mk (below_step B_3.out hb); have P_4 := Aside0.mk (blk_below P_3.out hb); clear P_3; have cP0 := (blk_cell P_4.out 0).trans rfl; have cP1 := (blk_cell P_4.out 1).trans rfl; have cP2 := (blk_cell P_4.out 2).trans rfl; clear hb) | (go_at_call 60; (with_reducible refine (reachesc_calls g X y F _ HX.out HY.out HF.out (fun W2 x hx h2 => HA.out W2 x hx (B_4.out.trans (h2.mono B_4.out.size)))).mono ?_); rw [c3]; rintro e w5 ⟨rfl, hb⟩; clear cP0 cP1 cP2; have B_5 := Aside0.mk (below_step B_4.out hb); have P_5 := Aside0.mk (blk_below P_4.out hb); clear P_4; have cP0 := (blk_cell P_5.out 0).trans rfl; have cP1 := (blk_cell P_5.out 1).trans rfl; have cP2 := (blk_cell P_5.out 2).trans rfl; clear hb) | (go_at_call 58; (with_reducible refine (Prev_calls X HX.out _).mono ?_); rw [hpv]; rintro e w6 ⟨rfl, hd⟩; have hb := hd.below; clear hd; clear cP0 cP1 cP2; have B_6 := Aside0.mk (below_step B_5.out hb); have P_6 := Aside0.mk (blk_below P_5.out hb); clear P_5; have cP0 := (blk_cell P_6.out 0).trans rfl; have cP1 := (blk_cell P_6.out 1).trans rfl; have cP2 := (blk_cell P_6.out 2).trans rfl; clear hb) | (go_at_call 60; (with_reducible refine (reachesc_calls g q y F _ HQ.out HY.out HF.out (fun W2 x hx h2 => HA.out W2 x hx (B_6.out.trans (h2.mono B_6.out.size)))).mono ?_); rw [c5]; rintro e w7 ⟨rfl, hb⟩; clear cP0 cP1 cP2; have B_7 := Aside0.mk (below_step B_6.out hb); have P_7 := Aside0.mk (blk_below P_6.out hb); clear P_6; have cP0 := (blk_cell P_7.out 0).trans rfl; have cP1 := (blk_cell P_7.out 1).trans rfl; have cP2 := (blk_cell P_7.out 2).trans rfl; clear hb))
       go_ret
       exact ⟨rfl, B_7.out⟩
      ·go_enter Try.func42, Try.ntmps42
       go_wp2_with (first | ((with_reducible refine gate_dst (N := 9) rfl ?_); refine box_event ?hg (N := 9) ?hd (cs := #[.int .u32 (X : Int), .int .u32 (B : Int), .bool true]) (t := 32) ?hr ?_; (case hd => rfl); (case hg => rfl); (case hr => first | (go_simp; done) | (go_simp; rfl)); intro gp hg_ w1 hm_ hb_; have GP := Aside0.mk (show w.heap.size ≤ gp by rw [hg_]; exact B_0.out.size); have B_1 := Aside0.mk (below_step B_0.out hb_); have P_1 := Aside0.mk (hm_); have cP0 := (blk_cell P_1.out 0).trans rfl; have cP1 := (blk_cell P_1.out 1).trans rfl; have cP2 := (blk_cell P_1.out 2).trans rfl; clear hm_ hb_ hg_) | (go_at_call 44; (with_reducible refine (IsNaN_calls y HY.out _).mono ?_); rw [c0]; rintro e w2 ⟨rfl, hb⟩; clear cP0 cP1 cP2; have B_2 := Aside0.mk (below_step B_1.out hb); have P_2 := Aside0.mk (blk_below P_1.out hb); clear P_1; have cP0 := (blk_cell P_2.out 0).trans rfl; have cP1 := (blk_cell P_2.out 1).trans rfl; have cP2 := (blk_cell P_2.out 2).trans rfl; clear hb) | (go_at_call 59; (with_reducible refine (Before_calls X lo HX.out HLO.out _).mono ?_); rw [c1]; rintro e w3 ⟨rfl, hd⟩; have hb := hd.below; clear hd; clear cP0 cP1 cP2; have B_3 := Aside0.mk (below_step B_2.out hb); have P_3 := Aside0.mk (blk_below P_2.out hb); clear P_2; have cP0 := (blk_cell P_3.out 0).trans rfl; have cP1 := (blk_cell P_3.out 1).trans rfl; have cP2 := (blk_cell P_3.out 2).trans rfl; clear hb) | (go_at_call 59; (with_reducible refine (Before_calls hi X HHI.out HX.out _).mono ?_); rw [c2]; rintro e w4 ⟨rfl, hd⟩; have hb := hd.below; clear hd; clear cP0 cP1 cP2; have B_4 := Aside0.mk (below_step B_3.out hb); have P_4 := Aside0.mk (blk_below P_3.out hb); clear P_3; have cP0 := (blk_cell P_4.out 0).trans rfl; have cP1 := (blk_cell P_4.out 1).trans rfl; have cP2 := (blk_cell P_4.out 2).trans rfl; clear hb) | (go_at_call 60; (with_reducible refine (reachesc_calls g X y F _ HX.out HY.out HF.out (fun W2 x hx h2 => HA.out W2 x hx (B_4.out.trans (h2.mono B_4.out.size)))).mono ?_); rw [c3]; rintro e w5 ⟨rfl, hb⟩; clear cP0 cP1 cP2; have B_5 := Aside0.mk (below_step B_4.out hb); have P_5 := Aside0.mk (blk_below P_4.out hb); clear P_4; have cP0 := (blk_cell P_5.out 0).trans rfl; have cP1 := (blk_cell P_5.out 1).trans rfl; have cP2 := (blk_cell P_5.out 2).trans rfl; clear hb) | (go_at_call 58; (with_reducible refine (Prev_calls X HX.out _).mono ?_); rw [hpv]; rintro e w6 ⟨rfl, hd⟩; have hb := hd.below; clear hd; clear cP0 cP1 cP2; have B_6 := Aside0.mk (below_step B_5.out hb); have P_6 := Aside0.mk (blk_below P_5.out hb); clear P_5; have cP0 := (blk_cell P_6.out 0).trans rfl; have cP1 := (blk_cell P_6.out 1).trans rfl; have cP2 := (blk_cell P_6.out 2).trans rfl; clear hb) | (go_at_call 60; (with_reducible refine (reachesc_calls g q y F _ HQ.out HY.out HF.out (fun W2 x hx h2 => HA.out W2 x hx (B_6.out.trans (h2.mono B_6.out.size)))).mono ?_); rw [c5]; rintro e w7 ⟨rfl, hb⟩; clear cP0 cP1 cP2; have B_7 := Aside0.mk (below_step B_6.out hb); have P_7 := Aside0.mk (blk_below P_6.out hb); clear P_6; have cP0 := (blk_cell P_7.out 0).trans rfl; have cP1 := (blk_cell P_7.out 1).trans rfl; have cP2 := (blk_cell P_7.out 2).trans rfl; clear hb))
       go_ret
       exact ⟨rfl, B_7.out⟩
  refine main _ rfl ?_
  by_cases h : X = lo
  ·rw [h, decide_eq_false (fun h => h rfl)]; exact (bne_self_eq_false _).symm
  ·rw [decide_eq_true h]; symm; exact bne_iff_ne.mpr (by omega)
 ·rw [if_pos rfl]
  go_enter Try.func42, Try.ntmps42
  go_wp2_with (first | ((with_reducible refine gate_dst (N := 9) rfl ?_); refine box_event ?hg (N := 9) ?hd (cs := #[.int .u32 (X : Int), .int .u32 (B : Int), .bool H]) (t := 32) ?hr ?_; (case hd => rfl); (case hg => rfl); (case hr => first | (go_simp; done) | (go_simp; rfl)); intro gp hg_ w1 hm_ hb_; have GP := Aside0.mk (show w.heap.size ≤ gp by rw [hg_]; exact B_0.out.size); have B_1 := Aside0.mk (below_step B_0.out hb_); have P_1 := Aside0.mk (hm_); have cP0 := (blk_cell P_1.out 0).trans rfl; have cP1 := (blk_cell P_1.out 1).trans rfl; have cP2 := (blk_cell P_1.out 2).trans rfl; clear hm_ hb_ hg_) | (go_at_call 44; (with_reducible refine (IsNaN_calls y HY.out _).mono ?_); rw [c0]; rintro e w2 ⟨rfl, hb⟩; clear cP0 cP1 cP2; have B_2 := Aside0.mk (below_step B_1.out hb); have P_2 := Aside0.mk (blk_below P_1.out hb); clear P_1; have cP0 := (blk_cell P_2.out 0).trans rfl; have cP1 := (blk_cell P_2.out 1).trans rfl; have cP2 := (blk_cell P_2.out 2).trans rfl; clear hb))
  go_ret
  exact ⟨rfl, B_2.out⟩
set_option maxHeartbeats 4000000 in
theorem reachesh_calls (g x y : Nat) (F : Nat → Nat) (w : World) (hx : x < 4294967296) (hy : y < 4294967296) (hF : ∀ x, x < 4294967296 → F x < 4294967296) (hA : ∀ (W : World) (x : Nat), x < 4294967296 → Below w.heap.size w W → Calls Try.prog 22 #[.pointer (some ⟨g, 0, none⟩), .int .u32 (x : Int)] W fun e w' => e = .returned (.int .u32 ((F x : Nat) : Int)) ∧ Below W.heap.size W w') :
    Calls Try.prog 60 #[.iface 48 (.pointer (some ⟨g, 0, none⟩)), .int .u32 (x : Int), .int .u32 (y : Int)] w fun e w' => e = .returned (.bool (rch F x y)) ∧ Below w.heap.size w w' := by
 have HA := Aside0.mk hA
 have HX := Aside0.mk hx
 have HY := Aside0.mk hy
 have HV : Aside0 (F x < 4294967296) := ⟨hF x hx⟩
 have B_0 : Aside0 (Below w.heap.size w w) := ⟨Below.refl _ _⟩
 have hm : ∀ w, (method 213 48 (.pointer (some ⟨g, 0, none⟩)) "At").run Try.prog w = .ok (22, .pointer (some ⟨g, 0, none⟩)) w := fun _ => by kernel_rfl
 have hn : ∀ w, (nilAhead 213 48 (.pointer (some ⟨g, 0, none⟩)) "At").run Try.prog w = .ok (some false) w := fun _ => by kernel_rfl
 clear hA hx hy hF
 unfold rch
 cases c1 : lt y (F x)
 ·rw [Bool.false_or]
  go_enter Try.func60, Try.ntmps60
  go_wp2_with (first | (go_at_call 22; (with_reducible refine (HA.out _ x HX.out (Below.refl _ _)).mono ?_); rintro e w1 ⟨rfl, hb⟩; have B_1 := Aside0.mk (below_step B_0.out hb); clear hb) | (go_at_call 45; with_reducible refine (Less_calls y (F x) HY.out HV.out _).mono ?_; rw [c1]; rintro e _ ⟨rfl, rfl⟩) | (go_at_call 48; with_reducible refine (Equal_calls y (F x) HY.out HV.out _).mono ?_; rintro e _ ⟨rfl, rfl⟩))
  go_ret
  exact ⟨rfl, B_1.out⟩
 ·rw [Bool.true_or]
  go_enter Try.func60, Try.ntmps60
  go_wp2_with (first | (go_at_call 22; (with_reducible refine (HA.out _ x HX.out (Below.refl _ _)).mono ?_); rintro e w1 ⟨rfl, hb⟩; have B_1 := Aside0.mk (below_step B_0.out hb); clear hb) | (go_at_call 45; with_reducible refine (Less_calls y (F x) HY.out HV.out _).mono ?_; rw [c1]; rintro e _ ⟨rfl, rfl⟩))
  go_ret
  exact ⟨rfl, B_1.out⟩
set_option maxHeartbeats 8000000 in
theorem provedh_calls (g lo hi y X B : Nat) (H : Bool) (F : Nat → Nat) (w : World) (hlo : lo < 4294967296) (hhi : hi < 4294967296) (hy : y < 4294967296) (hX : X < 4294967296) (hF : ∀ x, x < 4294967296 → F x < 4294967296) (hA : ∀ (W : World) (x : Nat), x < 4294967296 → Below w.heap.size w W → Calls Try.prog 22 #[.pointer (some ⟨g, 0, none⟩), .int .u32 (x : Int)] W fun e w' => e = .returned (.int .u32 ((F x : Nat) : Int)) ∧ Below W.heap.size W w') :
    Calls Try.prog 42 #[.iface 48 (.pointer (some ⟨g, 0, none⟩)), .int .u32 (lo : Int), .int .u32 (hi : Int), .int .u32 (y : Int), .agg #[.int .u32 (X : Int), .int .u32 (B : Int), .bool H]] w fun e w' => e = .returned (.bool (ckP F lo hi y ⟨X, B, H⟩)) ∧ Below w.heap.size w w' := by
 have HA := Aside0.mk hA
 have HF := Aside0.mk hF
 have HX := Aside0.mk hX
 have HY := Aside0.mk hy
 have HLO := Aside0.mk hlo
 have HHI := Aside0.mk hhi
 unfold ckP
 simp only
 have B_0 : Aside0 (Below w.heap.size w w) := ⟨Below.refl _ _⟩
 clear hA hF hX hy hlo hhi
 cases c0 : isnan y
 ·rw [if_neg (show ¬ (false = true) by decide)]
  by_cases d1 : kf X < kf lo
  ·have c1 := decide_eq_true d1
   rw [if_pos d1]
   clear d1
   go_enter Try.func42, Try.ntmps42
   go_wp2_with (first | ((with_reducible refine gate_dst (N := 9) rfl ?_); refine box_event ?hg (N := 9) ?hd (cs := #[.int .u32 (X : Int), .int .u32 (B : Int), .bool H]) (t := 32) ?hr ?_; (case hd => rfl); (case hg => rfl); (case hr => first | (go_simp; done) | (go_simp; rfl)); intro gp hg_ w1 hm_ hb_; have GP := Aside0.mk (show w.heap.size ≤ gp by rw [hg_]; exact B_0.out.size); have B_1 := Aside0.mk (below_step B_0.out hb_); have P_1 := Aside0.mk (hm_); have cP0 := (blk_cell P_1.out 0).trans rfl; have cP1 := (blk_cell P_1.out 1).trans rfl; have cP2 := (blk_cell P_1.out 2).trans rfl; clear hm_ hb_ hg_) | (go_at_call 44; (with_reducible refine (IsNaN_calls y HY.out _).mono ?_); rw [c0]; rintro e w2 ⟨rfl, hb⟩; clear cP0 cP1 cP2; have B_2 := Aside0.mk (below_step B_1.out hb); have P_2 := Aside0.mk (blk_below P_1.out hb); clear P_1; have cP0 := (blk_cell P_2.out 0).trans rfl; have cP1 := (blk_cell P_2.out 1).trans rfl; have cP2 := (blk_cell P_2.out 2).trans rfl; clear hb) | (go_at_call 59; (with_reducible refine (Before_calls X lo HX.out HLO.out _).mono ?_); rw [c1]; rintro e w3 ⟨rfl, hd⟩; have hb := hd.below; clear hd; clear cP0 cP1 cP2; have B_3 := Aside0.mk (below_step B_2.out hb); have P_3 := Aside0.mk (blk_below P_2.out hb); clear P_2; have cP0 := (blk_cell P_3.out 0).trans rfl; have cP1 := (blk_cell P_3.out 1).trans rfl; have cP2 := (blk_cell P_3.out 2).trans rfl; clear hb))
   go_ret
   exact ⟨rfl, B_3.out⟩
  have c1 := decide_eq_false d1
  rw [if_neg d1]
  clear d1
  by_cases d2 : kf hi < kf X
  ·have c2 := decide_eq_true d2
   rw [if_pos d2]
   clear d2
   go_enter Try.func42, Try.ntmps42
   go_wp2_with (first | ((with_reducible refine gate_dst (N := 9) rfl ?_); refine box_event ?hg (N := 9) ?hd (cs := #[.int .u32 (X : Int), .int .u32 (B : Int), .bool H]) (t := 32) ?hr ?_; (case hd => rfl); (case hg => rfl); (case hr => first | (go_simp; done) | (go_simp; rfl)); intro gp hg_ w1 hm_ hb_; have GP := Aside0.mk (show w.heap.size ≤ gp by rw [hg_]; exact B_0.out.size); have B_1 := Aside0.mk (below_step B_0.out hb_); have P_1 := Aside0.mk (hm_); have cP0 := (blk_cell P_1.out 0).trans rfl; have cP1 := (blk_cell P_1.out 1).trans rfl; have cP2 := (blk_cell P_1.out 2).trans rfl; clear hm_ hb_ hg_) | (go_at_call 44; (with_reducible refine (IsNaN_calls y HY.out _).mono ?_); rw [c0]; rintro e w2 ⟨rfl, hb⟩; clear cP0 cP1 cP2; have B_2 := Aside0.mk (below_step B_1.out hb); have P_2 := Aside0.mk (blk_below P_1.out hb); clear P_1; have cP0 := (blk_cell P_2.out 0).trans rfl; have cP1 := (blk_cell P_2.out 1).trans rfl; have cP2 := (blk_cell P_2.out 2).trans rfl; clear hb) | (go_at_call 59; (with_reducible refine (Before_calls X lo HX.out HLO.out _).mono ?_); rw [c1]; rintro e w3 ⟨rfl, hd⟩; have hb := hd.below; clear hd; clear cP0 cP1 cP2; have B_3 := Aside0.mk (below_step B_2.out hb); have P_3 := Aside0.mk (blk_below P_2.out hb); clear P_2; have cP0 := (blk_cell P_3.out 0).trans rfl; have cP1 := (blk_cell P_3.out 1).trans rfl; have cP2 := (blk_cell P_3.out 2).trans rfl; clear hb) | (go_at_call 59; (with_reducible refine (Before_calls hi X HHI.out HX.out _).mono ?_); rw [c2]; rintro e w4 ⟨rfl, hd⟩; have hb := hd.below; clear hd; clear cP0 cP1 cP2; have B_4 := Aside0.mk (below_step B_3.out hb); have P_4 := Aside0.mk (blk_below P_3.out hb); clear P_3; have cP0 := (blk_cell P_4.out 0).trans rfl; have cP1 := (blk_cell P_4.out 1).trans rfl; have cP2 := (blk_cell P_4.out 2).trans rfl; clear hb))
   go_ret
   exact ⟨rfl, B_4.out⟩
  have c2 := decide_eq_false d2
  rw [if_neg d2]
  clear d2
  cases c3 : rch F X y
  ·rw [if_pos rfl]
   go_enter Try.func42, Try.ntmps42
   go_wp2_with (first | ((with_reducible refine gate_dst (N := 9) rfl ?_); refine box_event ?hg (N := 9) ?hd (cs := #[.int .u32 (X : Int), .int .u32 (B : Int), .bool H]) (t := 32) ?hr ?_; (case hd => rfl); (case hg => rfl); (case hr => first | (go_simp; done) | (go_simp; rfl)); intro gp hg_ w1 hm_ hb_; have GP := Aside0.mk (show w.heap.size ≤ gp by rw [hg_]; exact B_0.out.size); have B_1 := Aside0.mk (below_step B_0.out hb_); have P_1 := Aside0.mk (hm_); have cP0 := (blk_cell P_1.out 0).trans rfl; have cP1 := (blk_cell P_1.out 1).trans rfl; have cP2 := (blk_cell P_1.out 2).trans rfl; clear hm_ hb_ hg_) | (go_at_call 44; (with_reducible refine (IsNaN_calls y HY.out _).mono ?_); rw [c0]; rintro e w2 ⟨rfl, hb⟩; clear cP0 cP1 cP2; have B_2 := Aside0.mk (below_step B_1.out hb); have P_2 := Aside0.mk (blk_below P_1.out hb); clear P_1; have cP0 := (blk_cell P_2.out 0).trans rfl; have cP1 := (blk_cell P_2.out 1).trans rfl; have cP2 := (blk_cell P_2.out 2).trans rfl; clear hb) | (go_at_call 59; (with_reducible refine (Before_calls X lo HX.out HLO.out _).mono ?_); rw [c1]; rintro e w3 ⟨rfl, hd⟩; have hb := hd.below; clear hd; clear cP0 cP1 cP2; have B_3 := Aside0.mk (below_step B_2.out hb); have P_3 := Aside0.mk (blk_below P_2.out hb); clear P_2; have cP0 := (blk_cell P_3.out 0).trans rfl; have cP1 := (blk_cell P_3.out 1).trans rfl; have cP2 := (blk_cell P_3.out 2).trans rfl; clear hb) | (go_at_call 59; (with_reducible refine (Before_calls hi X HHI.out HX.out _).mono ?_); rw [c2]; rintro e w4 ⟨rfl, hd⟩; have hb := hd.below; clear hd; clear cP0 cP1 cP2; have B_4 := Aside0.mk (below_step B_3.out hb); have P_4 := Aside0.mk (blk_below P_3.out hb); clear P_3; have cP0 := (blk_cell P_4.out 0).trans rfl; have cP1 := (blk_cell P_4.out 1).trans rfl; have cP2 := (blk_cell P_4.out 2).trans rfl; clear hb) | (go_at_call 60; (with_reducible refine (reachesh_calls g X y F _ HX.out HY.out HF.out (fun W2 x hx h2 => HA.out W2 x hx (B_4.out.trans (h2.mono B_4.out.size)))).mono ?_); rw [c3]; rintro e w5 ⟨rfl, hb⟩; clear cP0 cP1 cP2; have B_5 := Aside0.mk (below_step B_4.out hb); have P_5 := Aside0.mk (blk_below P_4.out hb); clear P_4; have cP0 := (blk_cell P_5.out 0).trans rfl; have cP1 := (blk_cell P_5.out 1).trans rfl; have cP2 := (blk_cell P_5.out 2).trans rfl; clear hb))
   go_ret
   exact ⟨rfl, B_5.out⟩
  rw [if_neg (show ¬ (true = false) by decide)]
  have main : ∀ b : Bool, ((X : Int) != (lo : Int)) = b → decide (X ≠ lo) = b → Calls Try.prog 42 #[.iface 48 (.pointer (some ⟨g, 0, none⟩)), .int .u32 (lo : Int), .int .u32 (hi : Int), .int .u32 (y : Int), .agg #[.int .u32 (X : Int), .int .u32 (B : Int), .bool H]] w fun e w' => e = .returned (.bool (if H ≠ decide (X ≠ lo) then false
 else if H = false then decide (B = 0) else decide (kf X ≠ 0) && (decide (B = (if kf X = 0 then 0 else fk (kf X - 1))) && !rch F (if kf X = 0 then 0 else fk (kf X - 1)) y))) ∧ Below w.heap.size w w' := by
     intro b e1 e2
     rw [e2]
     clear e2
     cases b <;> cases H
     ·rw [if_neg (show ¬ (false ≠ false) from fun h => h rfl), if_pos rfl]
      have e4 : ((B : Int) == 0) = decide (B = 0) := by rw [Bool.eq_iff_iff, beq_iff_eq, decide_eq_true_iff]; omega
      rw [← e4]
      clear e4
      go_enter Try.func42, Try.ntmps42
      go_wp2_with (first | ((with_reducible refine gate_dst (N := 9) rfl ?_); refine box_event ?hg (N := 9) ?hd (cs := #[.int .u32 (X : Int), .int .u32 (B : Int), .bool false]) (t := 32) ?hr ?_; (case hd => rfl); (case hg => rfl); (case hr => first | (go_simp; done) | (go_simp; rfl)); intro gp hg_ w1 hm_ hb_; have GP := Aside0.mk (show w.heap.size ≤ gp by rw [hg_]; exact B_0.out.size); have B_1 := Aside0.mk (below_step B_0.out hb_); have P_1 := Aside0.mk (hm_); have cP0 := (blk_cell P_1.out 0).trans rfl; have cP1 := (blk_cell P_1.out 1).trans rfl; have cP2 := (blk_cell P_1.out 2).trans rfl; clear hm_ hb_ hg_) | (go_at_call 44; (with_reducible refine (IsNaN_calls y HY.out _).mono ?_); rw [c0]; rintro e w2 ⟨rfl, hb⟩; clear cP0 cP1 cP2; have B_2 := Aside0.mk (below_step B_1.out hb); have P_2 := Aside0.mk (blk_below P_1.out hb); clear P_1; have cP0 := (blk_cell P_2.out 0).trans rfl; have cP1 := (blk_cell P_2.out 1).trans rfl; have cP2 := (blk_cell P_2.out 2).trans rfl; clear hb) | (go_at_call 59; (with_reducible refine (Before_calls X lo HX.out HLO.out _).mono ?_); rw [c1]; rintro e w3 ⟨rfl, hd⟩; have hb := hd.below; clear hd; clear cP0 cP1 cP2; have B_3 := Aside0.mk (below_step B_2.out hb); have P_3 := Aside0.mk (blk_below P_2.out hb); clear P_2; have cP0 := (blk_cell P_3.out 0).trans rfl; have cP1 := (blk_cell P_3.out 1).trans rfl; have cP2 := (blk_cell P_3.out 2).trans rfl; clear hb) | (go_at_call 59; (with_reducible refine (Before_calls hi X HHI.out HX.out _).mono ?_); rw [c2]; rintro e w4 ⟨rfl, hd⟩; have hb := hd.below; clear hd; clear cP0 cP1 cP2; have B_4 := Aside0.mk (below_step B_3.out hb); have P_4 := Aside0.mk (blk_below P_3.out hb); clear P_3; have cP0 := (blk_cell P_4.out 0).trans rfl; have cP1 := (blk_cell P_4.out 1).trans rfl; have cP2 := (blk_cell P_4.out 2).trans rfl; clear hb) | (go_at_call 60; (with_reducible refine (reachesh_calls g X y F _ HX.out HY.out HF.out (fun W2 x hx h2 => HA.out W2 x hx (B_4.out.trans (h2.mono B_4.out.size)))).mono ?_); rw [c3]; rintro e w5 ⟨rfl, hb⟩; clear cP0 cP1 cP2; have B_5 := Aside0.mk (below_step B_4.out hb); have P_5 := Aside0.mk (blk_below P_4.out hb); clear P_4; have cP0 := (blk_cell P_5.out 0).trans rfl; have cP1 := (blk_cell P_5.out 1).trans rfl; have cP2 := (blk_cell P_5.out 2).trans rfl; clear hb))
      go_ret
      exact ⟨rfl, B_5.out⟩
     ·rw [if_pos (show true ≠ false by decide)]
      go_enter Try.func42, Try.ntmps42
      go_wp2_with (first | ((with_reducible refine gate_dst (N := 9) rfl ?_); refine box_event ?hg (N := 9) ?hd (cs := #[.int .u32 (X : Int), .int .u32 (B : Int), .bool true]) (t := 32) ?hr ?_; (case hd => rfl); (case hg => rfl); (case hr => first | (go_simp; done) | (go_simp; rfl)); intro gp hg_ w1 hm_ hb_; have GP := Aside0.mk (show w.heap.size ≤ gp by rw [hg_]; exact B_0.out.size); have B_1 := Aside0.mk (below_step B_0.out hb_); have P_1 := Aside0.mk (hm_); have cP0 := (blk_cell P_1.out 0).trans rfl; have cP1 := (blk_cell P_1.out 1).trans rfl; have cP2 := (blk_cell P_1.out 2).trans rfl; clear hm_ hb_ hg_) | (go_at_call 44; (with_reducible refine (IsNaN_calls y HY.out _).mono ?_); rw [c0]; rintro e w2 ⟨rfl, hb⟩; clear cP0 cP1 cP2; have B_2 := Aside0.mk (below_step B_1.out hb); have P_2 := Aside0.mk (blk_below P_1.out hb); clear P_1; have cP0 := (blk_cell P_2.out 0).trans rfl; have cP1 := (blk_cell P_2.out 1).trans rfl; have cP2 := (blk_cell P_2.out 2).trans rfl; clear hb) | (go_at_call 59; (with_reducible refine (Before_calls X lo HX.out HLO.out _).mono ?_); rw [c1]; rintro e w3 ⟨rfl, hd⟩; have hb := hd.below; clear hd; clear cP0 cP1 cP2; have B_3 := Aside0.mk (below_step B_2.out hb); have P_3 := Aside0.mk (blk_below P_2.out hb); clear P_2; have cP0 := (blk_cell P_3.out 0).trans rfl; have cP1 := (blk_cell P_3.out 1).trans rfl; have cP2 := (blk_cell P_3.out 2).trans rfl; clear hb) | (go_at_call 59; (with_reducible refine (Before_calls hi X HHI.out HX.out _).mono ?_); rw [c2]; rintro e w4 ⟨rfl, hd⟩; have hb := hd.below; clear hd; clear cP0 cP1 cP2; have B_4 := Aside0.mk (below_step B_3.out hb); have P_4 := Aside0.mk (blk_below P_3.out hb); clear P_3; have cP0 := (blk_cell P_4.out 0).trans rfl; have cP1 := (blk_cell P_4.out 1).trans rfl; have cP2 := (blk_cell P_4.out 2).trans rfl; clear hb) | (go_at_call 60; (with_reducible refine (reachesh_calls g X y F _ HX.out HY.out HF.out (fun W2 x hx h2 => HA.out W2 x hx (B_4.out.trans (h2.mono B_4.out.size)))).mono ?_); rw [c3]; rintro e w5 ⟨rfl, hb⟩; clear cP0 cP1 cP2; have B_5 := Aside0.mk (below_step B_4.out hb); have P_5 := Aside0.mk (blk_below P_4.out hb); clear P_4; have cP0 := (blk_cell P_5.out 0).trans rfl; have cP1 := (blk_cell P_5.out 1).trans rfl; have cP2 := (blk_cell P_5.out 2).trans rfl; clear hb))
      go_ret
      exact ⟨rfl, B_5.out⟩
     ·rw [if_pos (show false ≠ true by decide)]
      go_enter Try.func42, Try.ntmps42
      go_wp2_with (first | ((with_reducible refine gate_dst (N := 9) rfl ?_); refine box_event ?hg (N := 9) ?hd (cs := #[.int .u32 (X : Int), .int .u32 (B : Int), .bool false]) (t := 32) ?hr ?_; (case hd => rfl); (case hg => rfl); (case hr => first | (go_simp; done) | (go_simp; rfl)); intro gp hg_ w1 hm_ hb_; have GP := Aside0.mk (show w.heap.size ≤ gp by rw [hg_]; exact B_0.out.size); have B_1 := Aside0.mk (below_step B_0.out hb_); have P_1 := Aside0.mk (hm_); have cP0 := (blk_cell P_1.out 0).trans rfl; have cP1 := (blk_cell P_1.out 1).trans rfl; have cP2 := (blk_cell P_1.out 2).trans rfl; clear hm_ hb_ hg_) | (go_at_call 44; (with_reducible refine (IsNaN_calls y HY.out _).mono ?_); rw [c0]; rintro e w2 ⟨rfl, hb⟩; clear cP0 cP1 cP2; have B_2 := Aside0.mk (below_step B_1.out hb); have P_2 := Aside0.mk (blk_below P_1.out hb); clear P_1; have cP0 := (blk_cell P_2.out 0).trans rfl; have cP1 := (blk_cell P_2.out 1).trans rfl; have cP2 := (blk_cell P_2.out 2).trans rfl; clear hb) | (go_at_call 59; (with_reducible refine (Before_calls X lo HX.out HLO.out _).mono ?_); rw [c1]; rintro e w3 ⟨rfl, hd⟩; have hb := hd.below; clear hd; clear cP0 cP1 cP2; have B_3 := Aside0.mk (below_step B_2.out hb); have P_3 := Aside0.mk (blk_below P_2.out hb); clear P_2; have cP0 := (blk_cell P_3.out 0).trans rfl; have cP1 := (blk_cell P_3.out 1).trans rfl; have cP2 := (blk_cell P_3.out 2).trans rfl; clear hb) | (go_at_call 59; (with_reducible refine (Before_calls hi X HHI.out HX.out _).mono ?_); rw [c2]; rintro e w4 ⟨rfl, hd⟩; have hb := hd.below; clear hd; clear cP0 cP1 cP2; have B_4 := Aside0.mk (below_step B_3.out hb); have P_4 := Aside0.mk (blk_below P_3.out hb); clear P_3; have cP0 := (blk_cell P_4.out 0).trans rfl; have cP1 := (blk_cell P_4.out 1).trans rfl; have cP2 := (blk_cell P_4.out 2).trans rfl; clear hb) | (go_at_call 60; (with_reducible refine (reachesh_calls g X y F _ HX.out HY.out HF.out (fun W2 x hx h2 => HA.out W2 x hx (B_4.out.trans (h2.mono B_4.out.size)))).mono ?_); rw [c3]; rintro e w5 ⟨rfl, hb⟩; clear cP0 cP1 cP2; have B_5 := Aside0.mk (below_step B_4.out hb); have P_5 := Aside0.mk (blk_below P_4.out hb); clear P_4; have cP0 := (blk_cell P_5.out 0).trans rfl; have cP1 := (blk_cell P_5.out 1).trans rfl; have cP2 := (blk_cell P_5.out 2).trans rfl; clear hb))
      go_ret
      exact ⟨rfl, B_5.out⟩
     ·rw [if_neg (show ¬ (true ≠ true) from fun h => h rfl), if_neg (show ¬ (true = false) by decide)]
      obtain ⟨q, hq⟩ : ∃ q, (if kf X = 0 then 0 else fk (kf X - 1)) = q := ⟨_, rfl⟩
      have HQ : Aside0 (q < 4294967296) := ⟨by
       rw [← hq]
       have := kf_word HX.out
       split
       ·decide
       ·exact fk_word (by omega)⟩
      have hpv := hq
      rw [hq]
      have e4 : ((B : Int) == (q : Int)) = decide (B = q) := by rw [Bool.eq_iff_iff, beq_iff_eq, decide_eq_true_iff]; omega
      rw [← e4]
      clear e4 hq
      obtain ⟨t1, h1⟩ : ∃ t, decide (kf X ≠ 0) = t := ⟨_, rfl⟩
      obtain ⟨t2, h2⟩ : ∃ t, ((B : Int) == (q : Int)) = t := ⟨_, rfl⟩
      rw [h1, h2]
      cases t1
      ·go_enter Try.func42, Try.ntmps42
       go_wp2_with (first | ((with_reducible refine gate_dst (N := 9) rfl ?_); refine box_event ?hg (N := 9) ?hd (cs := #[.int .u32 (X : Int), .int .u32 (B : Int), .bool true]) (t := 32) ?hr ?_; (case hd => rfl); (case hg => rfl); (case hr => first | (go_simp; done) | (go_simp; rfl)); intro gp hg_ w1 hm_ hb_; have GP := Aside0.mk (show w.heap.size ≤ gp by rw [hg_]; exact B_0.out.size); have B_1 := Aside0.mk (below_step B_0.out hb_); have P_1 := Aside0.mk (hm_); have cP0 := (blk_cell P_1.out 0).trans rfl; have cP1 := (blk_cell P_1.out 1).trans rfl; have cP2 := (blk_cell P_1.out 2).trans rfl; clear hm_ hb_ hg_) | (go_at_call 44; (with_reducible refine (IsNaN_calls y HY.out _).mono ?_); rw [c0]; rintro e w2 ⟨rfl, hb⟩; clear cP0 cP1 cP2; have B_2 := Aside0.mk (below_step B_1.out hb); have P_2 := Aside0.mk (blk_below P_1.out hb); clear P_1; have cP0 := (blk_cell P_2.out 0).trans rfl; have cP1 := (blk_cell P_2.out 1).trans rfl; have cP2 := (blk_cell P_2.out 2).trans rfl; clear hb) | (go_at_call 59; (with_reducible refine (Before_calls X lo HX.out HLO.out _).mono ?_); rw [c1]; rintro e w3 ⟨rfl, hd⟩; have hb := hd.below; clear hd; clear cP0 cP1 cP2; have B_3 := Aside0.mk (below_step B_2.out hb); have P_3 := Aside0.mk (blk_below P_2.out hb); clear P_2; have cP0 := (blk_cell P_3.out 0).trans rfl; have cP1 := (blk_cell P_3.out 1).trans rfl; have cP2 := (blk_cell P_3.out 2).trans rfl; clear hb) | (go_at_call 59; (with_reducible refine (Before_calls hi X HHI.out HX.out _).mono ?_); rw [c2]; rintro e w4 ⟨rfl, hd⟩; have hb := hd.below; clear hd; clear cP0 cP1 cP2; have B_4 := Aside0.mk (below_step B_3.out hb); have P_4 := Aside0.mk (blk_below P_3.out hb); clear P_3; have cP0 := (blk_cell P_4.out 0).trans rfl; have cP1 := (blk_cell P_4.out 1).trans rfl; have cP2 := (blk_cell P_4.out 2).trans rfl; clear hb) | (go_at_call 60; (with_reducible refine (reachesh_calls g X y F _ HX.out HY.out HF.out (fun W2 x hx h2 => HA.out W2 x hx (B_4.out.trans (h2.mono B_4.out.size)))).mono ?_); rw [c3]; rintro e w5 ⟨rfl, hb⟩; clear cP0 cP1 cP2; have B_5 := Aside0.mk (below_step B_4.out hb); have P_5 := Aside0.mk (blk_below P_4.out hb); clear P_4; have cP0 := (blk_cell P_5.out 0).trans rfl; have cP1 := (blk_cell P_5.out 1).trans rfl; have cP2 := (blk_cell P_5.out 2).trans rfl; clear hb) | (go_at_call 58; (with_reducible refine (Prev_calls X HX.out _).mono ?_); rw [hpv]; rintro e w6 ⟨rfl, hd⟩; have hb := hd.below; clear hd; clear cP0 cP1 cP2; have B_6 := Aside0.mk (below_step B_5.out hb); have P_6 := Aside0.mk (blk_below P_5.out hb); clear P_5; have cP0 := (blk_cell P_6.out 0).trans rfl; have cP1 := (blk_cell P_6.out 1).trans rfl; have cP2 := (blk_cell P_6.out 2).trans rfl; clear hb))
       go_ret
       exact ⟨rfl, B_6.out⟩
      cases t2
      ·go_enter Try.func42, Try.ntmps42
       go_wp2_with (first | ((with_reducible refine gate_dst (N := 9) rfl ?_); refine box_event ?hg (N := 9) ?hd (cs := #[.int .u32 (X : Int), .int .u32 (B : Int), .bool true]) (t := 32) ?hr ?_; (case hd => rfl); (case hg => rfl); (case hr => first | (go_simp; done) | (go_simp; rfl)); intro gp hg_ w1 hm_ hb_; have GP := Aside0.mk (show w.heap.size ≤ gp by rw [hg_]; exact B_0.out.size); have B_1 := Aside0.mk (below_step B_0.out hb_); have P_1 := Aside0.mk (hm_); have cP0 := (blk_cell P_1.out 0).trans rfl; have cP1 := (blk_cell P_1.out 1).trans rfl; have cP2 := (blk_cell P_1.out 2).trans rfl; clear hm_ hb_ hg_) | (go_at_call 44; (with_reducible refine (IsNaN_calls y HY.out _).mono ?_); rw [c0]; rintro e w2 ⟨rfl, hb⟩; clear cP0 cP1 cP2; have B_2 := Aside0.mk (below_step B_1.out hb); have P_2 := Aside0.mk (blk_below P_1.out hb); clear P_1; have cP0 := (blk_cell P_2.out 0).trans rfl; have cP1 := (blk_cell P_2.out 1).trans rfl; have cP2 := (blk_cell P_2.out 2).trans rfl; clear hb) | (go_at_call 59; (with_reducible refine (Before_calls X lo HX.out HLO.out _).mono ?_); rw [c1]; rintro e w3 ⟨rfl, hd⟩; have hb := hd.below; clear hd; clear cP0 cP1 cP2; have B_3 := Aside0.mk (below_step B_2.out hb); have P_3 := Aside0.mk (blk_below P_2.out hb); clear P_2; have cP0 := (blk_cell P_3.out 0).trans rfl; have cP1 := (blk_cell P_3.out 1).trans rfl; have cP2 := (blk_cell P_3.out 2).trans rfl; clear hb) | (go_at_call 59; (with_reducible refine (Before_calls hi X HHI.out HX.out _).mono ?_); rw [c2]; rintro e w4 ⟨rfl, hd⟩; have hb := hd.below; clear hd; clear cP0 cP1 cP2; have B_4 := Aside0.mk (below_step B_3.out hb); have P_4 := Aside0.mk (blk_below P_3.out hb); clear P_3; have cP0 := (blk_cell P_4.out 0).trans rfl; have cP1 := (blk_cell P_4.out 1).trans rfl; have cP2 := (blk_cell P_4.out 2).trans rfl; clear hb) | (go_at_call 60; (with_reducible refine (reachesh_calls g X y F _ HX.out HY.out HF.out (fun W2 x hx h2 => HA.out W2 x hx (B_4.out.trans (h2.mono B_4.out.size)))).mono ?_); rw [c3]; rintro e w5 ⟨rfl, hb⟩; clear cP0 cP1 cP2; have B_5 := Aside0.mk (below_step B_4.out hb); have P_5 := Aside0.mk (blk_below P_4.out hb); clear P_4; have cP0 := (blk_cell P_5.out 0).trans rfl; have cP1 := (blk_cell P_5.out 1).trans rfl; have cP2 := (blk_cell P_5.out 2).trans rfl; clear hb) | (go_at_call 58; (with_reducible refine (Prev_calls X HX.out _).mono ?_); rw [hpv]; rintro e w6 ⟨rfl, hd⟩; have hb := hd.below; clear hd; clear cP0 cP1 cP2; have B_6 := Aside0.mk (below_step B_5.out hb); have P_6 := Aside0.mk (blk_below P_5.out hb); clear P_5; have cP0 := (blk_cell P_6.out 0).trans rfl; have cP1 := (blk_cell P_6.out 1).trans rfl; have cP2 := (blk_cell P_6.out 2).trans rfl; clear hb))
       go_ret
       exact ⟨rfl, B_6.out⟩
      cases c5 : rch F q y
      ·go_enter Try.func42, Try.ntmps42
       go_wp2_with (first | ((with_reducible refine gate_dst (N := 9) rfl ?_); refine box_event ?hg (N := 9) ?hd (cs := #[.int .u32 (X : Int), .int .u32 (B : Int), .bool true]) (t := 32) ?hr ?_; (case hd => rfl); (case hg => rfl); (case hr => first | (go_simp; done) | (go_simp; rfl)); intro gp hg_ w1 hm_ hb_; have GP := Aside0.mk (show w.heap.size ≤ gp by rw [hg_]; exact B_0.out.size); have B_1 := Aside0.mk (below_step B_0.out hb_); have P_1 := Aside0.mk (hm_); have cP0 := (blk_cell P_1.out 0).trans rfl; have cP1 := (blk_cell P_1.out 1).trans rfl; have cP2 := (blk_cell P_1.out 2).trans rfl; clear hm_ hb_ hg_) | (go_at_call 44; (with_reducible refine (IsNaN_calls y HY.out _).mono ?_); rw [c0]; rintro e w2 ⟨rfl, hb⟩; clear cP0 cP1 cP2; have B_2 := Aside0.mk (below_step B_1.out hb); have P_2 := Aside0.mk (blk_below P_1.out hb); clear P_1; have cP0 := (blk_cell P_2.out 0).trans rfl; have cP1 := (blk_cell P_2.out 1).trans rfl; have cP2 := (blk_cell P_2.out 2).trans rfl; clear hb) | (go_at_call 59; (with_reducible refine (Before_calls X lo HX.out HLO.out _).mono ?_); rw [c1]; rintro e w3 ⟨rfl, hd⟩; have hb := hd.below; clear hd; clear cP0 cP1 cP2; have B_3 := Aside0.mk (below_step B_2.out hb); have P_3 := Aside0.mk (blk_below P_2.out hb); clear P_2; have cP0 := (blk_cell P_3.out 0).trans rfl; have cP1 := (blk_cell P_3.out 1).trans rfl; have cP2 := (blk_cell P_3.out 2).trans rfl; clear hb) | (go_at_call 59; (with_reducible refine (Before_calls hi X HHI.out HX.out _).mono ?_); rw [c2]; rintro e w4 ⟨rfl, hd⟩; have hb := hd.below; clear hd; clear cP0 cP1 cP2; have B_4 := Aside0.mk (below_step B_3.out hb); have P_4 := Aside0.mk (blk_below P_3.out hb); clear P_3; have cP0 := (blk_cell P_4.out 0).trans rfl; have cP1 := (blk_cell P_4.out 1).trans rfl; have cP2 := (blk_cell P_4.out 2).trans rfl; clear hb) | (go_at_call 60; (with_reducible refine (reachesh_calls g X y F _ HX.out HY.out HF.out (fun W2 x hx h2 => HA.out W2 x hx (B_4.out.trans (h2.mono B_4.out.size)))).mono ?_); rw [c3]; rintro e w5 ⟨rfl, hb⟩; clear cP0 cP1 cP2; have B_5 := Aside0.mk (below_step B_4.out hb); have P_5 := Aside0.mk (blk_below P_4.out hb); clear P_4; have cP0 := (blk_cell P_5.out 0).trans rfl; have cP1 := (blk_cell P_5.out 1).trans rfl; have cP2 := (blk_cell P_5.out 2).trans rfl; clear hb) | (go_at_call 58; (with_reducible refine (Prev_calls X HX.out _).mono ?_); rw [hpv]; rintro e w6 ⟨rfl, hd⟩; have hb := hd.below; clear hd; clear cP0 cP1 cP2; have B_6 := Aside0.mk (below_step B_5.out hb); have P_6 := Aside0.mk (blk_below P_5.out hb); clear P_5; have cP0 := (blk_cell P_6.out 0).trans rfl; have cP1 := (blk_cell P_6.out 1).trans rfl; have cP2 := (blk_cell P_6.out 2).trans rfl; clear hb) | (go_at_call 60; (with_reducible refine (reachesh_calls g q y F _ HQ.out HY.out HF.out (fun W2 x hx h2 => HA.out W2 x hx (B_6.out.trans (h2.mono B_6.out.size)))).mono ?_); rw [c5]; rintro e w7 ⟨rfl, hb⟩; clear cP0 cP1 cP2; have B_7 := Aside0.mk (below_step B_6.out hb); have P_7 := Aside0.mk (blk_below P_6.out hb); clear P_6; have cP0 := (blk_cell P_7.out 0).trans rfl; have cP1 := (blk_cell P_7.out 1).trans rfl; have cP2 := (blk_cell P_7.out 2).trans rfl; clear hb))
       go_ret
       exact ⟨rfl, B_7.out⟩
      ·go_enter Try.func42, Try.ntmps42
       go_wp2_with (first | ((with_reducible refine gate_dst (N := 9) rfl ?_); refine box_event ?hg (N := 9) ?hd (cs := #[.int .u32 (X : Int), .int .u32 (B : Int), .bool true]) (t := 32) ?hr ?_; (case hd => rfl); (case hg => rfl); (case hr => first | (go_simp; done) | (go_simp; rfl)); intro gp hg_ w1 hm_ hb_; have GP := Aside0.mk (show w.heap.size ≤ gp by rw [hg_]; exact B_0.out.size); have B_1 := Aside0.mk (below_step B_0.out hb_); have P_1 := Aside0.mk (hm_); have cP0 := (blk_cell P_1.out 0).trans rfl; have cP1 := (blk_cell P_1.out 1).trans rfl; have cP2 := (blk_cell P_1.out 2).trans rfl; clear hm_ hb_ hg_) | (go_at_call 44; (with_reducible refine (IsNaN_calls y HY.out _).mono ?_); rw [c0]; rintro e w2 ⟨rfl, hb⟩; clear cP0 cP1 cP2; have B_2 := Aside0.mk (below_step B_1.out hb); have P_2 := Aside0.mk (blk_below P_1.out hb); clear P_1; have cP0 := (blk_cell P_2.out 0).trans rfl; have cP1 := (blk_cell P_2.out 1).trans rfl; have cP2 := (blk_cell P_2.out 2).trans rfl; clear hb) | (go_at_call 59; (with_reducible refine (Before_calls X lo HX.out HLO.out _).mono ?_); rw [c1]; rintro e w3 ⟨rfl, hd⟩; have hb := hd.below; clear hd; clear cP0 cP1 cP2; have B_3 := Aside0.mk (below_step B_2.out hb); have P_3 := Aside0.mk (blk_below P_2.out hb); clear P_2; have cP0 := (blk_cell P_3.out 0).trans rfl; have cP1 := (blk_cell P_3.out 1).trans rfl; have cP2 := (blk_cell P_3.out 2).trans rfl; clear hb) | (go_at_call 59; (with_reducible refine (Before_calls hi X HHI.out HX.out _).mono ?_); rw [c2]; rintro e w4 ⟨rfl, hd⟩; have hb := hd.below; clear hd; clear cP0 cP1 cP2; have B_4 := Aside0.mk (below_step B_3.out hb); have P_4 := Aside0.mk (blk_below P_3.out hb); clear P_3; have cP0 := (blk_cell P_4.out 0).trans rfl; have cP1 := (blk_cell P_4.out 1).trans rfl; have cP2 := (blk_cell P_4.out 2).trans rfl; clear hb) | (go_at_call 60; (with_reducible refine (reachesh_calls g X y F _ HX.out HY.out HF.out (fun W2 x hx h2 => HA.out W2 x hx (B_4.out.trans (h2.mono B_4.out.size)))).mono ?_); rw [c3]; rintro e w5 ⟨rfl, hb⟩; clear cP0 cP1 cP2; have B_5 := Aside0.mk (below_step B_4.out hb); have P_5 := Aside0.mk (blk_below P_4.out hb); clear P_4; have cP0 := (blk_cell P_5.out 0).trans rfl; have cP1 := (blk_cell P_5.out 1).trans rfl; have cP2 := (blk_cell P_5.out 2).trans rfl; clear hb) | (go_at_call 58; (with_reducible refine (Prev_calls X HX.out _).mono ?_); rw [hpv]; rintro e w6 ⟨rfl, hd⟩; have hb := hd.below; clear hd; clear cP0 cP1 cP2; have B_6 := Aside0.mk (below_step B_5.out hb); have P_6 := Aside0.mk (blk_below P_5.out hb); clear P_5; have cP0 := (blk_cell P_6.out 0).trans rfl; have cP1 := (blk_cell P_6.out 1).trans rfl; have cP2 := (blk_cell P_6.out 2).trans rfl; clear hb) | (go_at_call 60; (with_reducible refine (reachesh_calls g q y F _ HQ.out HY.out HF.out (fun W2 x hx h2 => HA.out W2 x hx (B_6.out.trans (h2.mono B_6.out.size)))).mono ?_); rw [c5]; rintro e w7 ⟨rfl, hb⟩; clear cP0 cP1 cP2; have B_7 := Aside0.mk (below_step B_6.out hb); have P_7 := Aside0.mk (blk_below P_6.out hb); clear P_6; have cP0 := (blk_cell P_7.out 0).trans rfl; have cP1 := (blk_cell P_7.out 1).trans rfl; have cP2 := (blk_cell P_7.out 2).trans rfl; clear hb))
       go_ret
       exact ⟨rfl, B_7.out⟩
  refine main _ rfl ?_
  by_cases h : X = lo
  ·rw [h, decide_eq_false (fun h => h rfl)]; exact (bne_self_eq_false _).symm
  ·rw [decide_eq_true h]; symm; exact bne_iff_ne.mpr (by omega)
 ·rw [if_pos rfl]
  go_enter Try.func42, Try.ntmps42
  go_wp2_with (first | ((with_reducible refine gate_dst (N := 9) rfl ?_); refine box_event ?hg (N := 9) ?hd (cs := #[.int .u32 (X : Int), .int .u32 (B : Int), .bool H]) (t := 32) ?hr ?_; (case hd => rfl); (case hg => rfl); (case hr => first | (go_simp; done) | (go_simp; rfl)); intro gp hg_ w1 hm_ hb_; have GP := Aside0.mk (show w.heap.size ≤ gp by rw [hg_]; exact B_0.out.size); have B_1 := Aside0.mk (below_step B_0.out hb_); have P_1 := Aside0.mk (hm_); have cP0 := (blk_cell P_1.out 0).trans rfl; have cP1 := (blk_cell P_1.out 1).trans rfl; have cP2 := (blk_cell P_1.out 2).trans rfl; clear hm_ hb_ hg_) | (go_at_call 44; (with_reducible refine (IsNaN_calls y HY.out _).mono ?_); rw [c0]; rintro e w2 ⟨rfl, hb⟩; clear cP0 cP1 cP2; have B_2 := Aside0.mk (below_step B_1.out hb); have P_2 := Aside0.mk (blk_below P_1.out hb); clear P_1; have cP0 := (blk_cell P_2.out 0).trans rfl; have cP1 := (blk_cell P_2.out 1).trans rfl; have cP2 := (blk_cell P_2.out 2).trans rfl; clear hb))
  go_ret
  exact ⟨rfl, B_2.out⟩
end Go.Proofs.Ytkicfaboibfbpaa.A
end
section
set_option linter.unusedVariables false
set_option linter.unusedSimpArgs false
namespace Go.Proofs.Ytkicfaboibfbpaa.A
open Go.RowKit Go.Proofs.YtkicfaboibfbpaaW.PrintWords Go.Proofs.YtkicfaboibfbpaaW.PrintLast Go.Proofs.YtkicfaboibfbpaaW.PrintMore Go.Proofs.Ytkicfaboibfbpaa.PCurveAts
/-- the error of Least -/
def lerr (F : Nat → Nat) (hi y : Nat) : Nat := if noY F hi y = true then 43 else 0
theorem firstc_calls (g lo hi y : Nat) (F : Nat → Nat) (w : World) (hF : Ris F) (hlo : lo < 4294967296) (hhi : hi < 4294967296) (hy : y < 4294967296) (n1 : isnan lo = false) (n2 : isnan hi = false) (hk : kf lo ≤ kf hi) (hA : ∀ (W : World) (x : Nat), x < 4294967296 → Below w.heap.size w W → Calls Try.prog 17 #[.pointer (some ⟨g, 0, none⟩), .int .u32 (x : Int)] W fun e w' => e = .returned (.int .u32 ((F x : Nat) : Int)) ∧ Below W.heap.size W w') :
    Calls Try.prog 41 #[.iface 26 (.pointer (some ⟨g, 0, none⟩)), .int .u32 (lo : Int), .int .u32 (hi : Int), .int .u32 (y : Int)] w fun e w' => e = .returned (.tuple #[.agg #[.int .u32 ((lst F lo hi y).X : Int), .int .u32 ((lst F lo hi y).B : Int), .bool (lst F lo hi y).H], .int .i64 ((lerr F hi y : Nat) : Int)]) ∧ Below w.heap.size w w' := by
 unfold lerr
 cases hno : noY F hi y
 ·rw [if_neg (by decide)]
  have h := hno
  unfold noY at h
  rw [Bool.or_eq_false_iff] at h
  have hw := kf_word hhi
  have hu : ∀ r, Srch (fun i => !lt (F (fk (kf lo + i))) y) (kf hi - kf lo) r → r = lstN F lo hi y := fun r hr => srch_uniq (fun i j hij hj hp => rs_mono hF hlo hhi n1 n2 hk hy h.1 i j hij (Nat.le_of_lt hj) hp) hr (fs_srch _ _)
  have hs := (lst_X hF hlo hhi n1 n2 hk y hno).2.1
  by_cases h0 : lstN F lo hi y = 0
  ·rw [lst_0 hno h0]
   have := first_zeroc g lo hi y F w hlo hhi hy hF.word hA h.1 h.2 hk 0 rfl (Nat.zero_le _) (fun r hr => (hu r hr).trans h0)
   rw [Nat.add_zero, fk_kf' hlo] at this
   exact this
  ·rw [lst_n hno h0]
   exact first_posc g lo hi y F w hlo hhi hy hF.word hA h.1 h.2 hk _ h0 hs hu
 ·rw [if_pos rfl, lst_no hno]
  unfold noY at hno
  cases h0 : isnan y
  ·rw [h0, Bool.false_or] at hno
   exact first_farc g lo hi y F w hlo hhi hy hF.word hA h0 hno
  ·exact first_nanc g lo hi y F w hlo hhi hy hF.word hA h0
theorem firsth_calls (g lo hi y : Nat) (F : Nat → Nat) (w : World) (hF : Ris F) (hlo : lo < 4294967296) (hhi : hi < 4294967296) (hy : y < 4294967296) (n1 : isnan lo = false) (n2 : isnan hi = false) (hk : kf lo ≤ kf hi) (hA : ∀ (W : World) (x : Nat), x < 4294967296 → Below w.heap.size w W → Calls Try.prog 22 #[.pointer (some ⟨g, 0, none⟩), .int .u32 (x : Int)] W fun e w' => e = .returned (.int .u32 ((F x : Nat) : Int)) ∧ Below W.heap.size W w') :
    Calls Try.prog 41 #[.iface 48 (.pointer (some ⟨g, 0, none⟩)), .int .u32 (lo : Int), .int .u32 (hi : Int), .int .u32 (y : Int)] w fun e w' => e = .returned (.tuple #[.agg #[.int .u32 ((lst F lo hi y).X : Int), .int .u32 ((lst F lo hi y).B : Int), .bool (lst F lo hi y).H], .int .i64 ((lerr F hi y : Nat) : Int)]) ∧ Below w.heap.size w w' := by
 unfold lerr
 cases hno : noY F hi y
 ·rw [if_neg (by decide)]
  have h := hno
  unfold noY at h
  rw [Bool.or_eq_false_iff] at h
  have hw := kf_word hhi
  have hu : ∀ r, Srch (fun i => !lt (F (fk (kf lo + i))) y) (kf hi - kf lo) r → r = lstN F lo hi y := fun r hr => srch_uniq (fun i j hij hj hp => rs_mono hF hlo hhi n1 n2 hk hy h.1 i j hij (Nat.le_of_lt hj) hp) hr (fs_srch _ _)
  have hs := (lst_X hF hlo hhi n1 n2 hk y hno).2.1
  by_cases h0 : lstN F lo hi y = 0
  ·rw [lst_0 hno h0]
   have := first_zeroh g lo hi y F w hlo hhi hy hF.word hA h.1 h.2 hk 0 rfl (Nat.zero_le _) (fun r hr => (hu r hr).trans h0)
   rw [Nat.add_zero, fk_kf' hlo] at this
   exact this
  ·rw [lst_n hno h0]
   exact first_posh g lo hi y F w hlo hhi hy hF.word hA h.1 h.2 hk _ h0 hs hu
 ·rw [if_pos rfl, lst_no hno]
  unfold noY at hno
  cases h0 : isnan y
  ·rw [h0, Bool.false_or] at hno
   exact first_farh g lo hi y F w hlo hhi hy hF.word hA h0 hno
  ·exact first_nanh g lo hi y F w hlo hhi hy hF.word hA h0
/-- the ends of a curve -/
def lo0 (l : List (Nat × Nat)) : Nat := (gk l 0).1
def hi0 (l : List (Nat × Nat)) : Nat := (gk l (l.length - 1)).1
section
variable {l : List (Nat × Nat)} (hv : Val l)
include hv
theorem ends_ok : lo0 l < 4294967296 ∧ hi0 l < 4294967296 ∧ isnan (lo0 l) = false ∧ isnan (hi0 l) = false ∧ kf (lo0 l) ≤ kf (hi0 l) := by
 have two := hv.two
 have h := lt_pz (hv.mono (i := 0) (j := l.length - 1) (by omega) (by omega))
 refine ⟨(gk_ok hv.ok 0).1, (gk_ok hv.ok _).1, h.1, h.2.1, ?_⟩
 have a := (gk_ok hv.ok 0).1
 have b := (gk_ok hv.ok (l.length - 1)).1
 have h2 := h.2.2
 unfold lo0 hi0 kf
 unfold pz at h2
 generalize (gk l 0).1 = u at *
 generalize (gk l (l.length - 1)).1 = v at *
 clear h
 by_cases c1 : u < 2147483648
 ·by_cases c2 : v < 2147483648
  ·rw [if_pos c1, if_pos c2] at *; omega
  ·rw [if_pos c1, if_neg c2] at *; omega
 ·by_cases c2 : v < 2147483648
  ·rw [if_neg c1, if_pos c2] at *; omega
  ·rw [if_neg c1, if_neg c2] at *; omega
end
set_option maxHeartbeats 2000000 in
theorem Leastc_calls (g : Nat) (A : Option Addr) (c : Nat) (l : List (Nat × Nat)) (hv : Val l) (w : World) (hC : CvB w g A c l) (y : Nat) (hy : y < 4294967296) :
    Calls Try.prog 13 #[.pointer (some ⟨g, 0, none⟩), .int .u32 (y : Int)] w fun e w' => e = .returned (.tuple #[.agg #[.int .u32 ((lst (atP l) (lo0 l) (hi0 l) y).X : Int), .int .u32 ((lst (atP l) (lo0 l) (hi0 l) y).B : Int), .bool (lst (atP l) (lo0 l) (hi0 l) y).H], .int .i64 ((lerr (atP l) (hi0 l) y : Nat) : Int)]) ∧ Below w.heap.size w w' := by
 have RF := ris_at hv
 have EN := ends_ok hv
 have HC : Aside0 (CvB w g A c l) := ⟨hC⟩
 have HV := Aside0.mk hv
 obtain ⟨F, hF⟩ : ∃ F, atP l = F := ⟨_, rfl⟩
 obtain ⟨lo, hlo⟩ : ∃ u, lo0 l = u := ⟨_, rfl⟩
 obtain ⟨hi, hhi⟩ : ∃ u, hi0 l = u := ⟨_, rfl⟩
 rw [hF, hlo, hhi]
 rw [hF] at RF
 rw [hlo, hhi] at EN
 obtain ⟨⟨pX, pB, pH⟩, hp⟩ : ∃ p, lst F lo hi y = p := ⟨_, rfl⟩
 obtain ⟨pe, hpe⟩ : ∃ n, lerr F hi y = n := ⟨_, rfl⟩
 rw [hp, hpe]
 have HFI : Aside0 (∀ W, Below w.heap.size w W → Calls Try.prog 41 #[.iface 26 (.pointer (some ⟨g, 0, none⟩)), .int .u32 (lo : Int), .int .u32 (hi : Int), .int .u32 (y : Int)] W fun e w' => e = .returned (.tuple #[.agg #[.int .u32 (pX : Int), .int .u32 (pB : Int), .bool pH], .int .i64 (pe : Int)]) ∧ Below W.heap.size W w') := ⟨fun W hb => by
  have := firstc_calls g lo hi y F W RF EN.1 EN.2.1 hy EN.2.2.1 EN.2.2.2.1 EN.2.2.2.2 (fun W2 x hx h2 => by rw [← hF]; exact At_calls g A c l hv x hx W2 ((hC.below hb).below h2))
  rw [hp, hpe] at this
  exact this⟩
 have B_0 : Aside0 (Below w.heap.size w w) := ⟨Below.refl _ _⟩
 have HLO := Aside0.mk hlo
 have HHI := Aside0.mk hhi
 unfold lo0 at HLO
 unfold hi0 at HHI
 clear hC hv hF hlo hhi hy RF EN hp hpe
 go_enter Try.func13, Try.ntmps13
 go_wp2_with (first | ((with_reducible refine gate_dst (N := 4) rfl ?_); refine box_event ?hg (N := 4) ?hd (cs := #[.int .u32 0, .int .u32 0, .bool false]) (t := 32) ?hr ?_; (case hd => rfl); (case hg => rfl); (case hr => first | (go_simp; done) | (go_simp; rfl)); intro gr hg_ w1 hm_ hb_; have GR := Aside0.mk (show w.heap.size ≤ gr by rw [hg_]; exact B_0.out.size); have B_1 := Aside0.mk (below_step B_0.out hb_); have R_1 := Aside0.mk (hm_); clear hm_ hb_ hg_) | (go_at_call 40; (with_reducible refine (ends_calls g A c l HV.out _ (HC.out.below B_1.out)).mono ?_); rw [HLO.out, HHI.out]; rintro e w2 ⟨rfl, hb⟩; have B_2 := Aside0.mk (below_step B_1.out hb); have R_2 := Aside0.mk (blk_below R_1.out hb); clear R_1; clear hb) | (go_at_call 41; (with_reducible refine (HFI.out _ B_2.out).mono ?_); rintro e w3 ⟨rfl, hb⟩; have B_3 := Aside0.mk (below_step B_2.out hb); have R_3 := Aside0.mk (blk_below R_2.out hb); clear R_2; clear hb) | ((with_reducible refine gate_store (p := 4) rfl ?_); refine store_event rfl rfl rfl gr #[.int .u32 (pX : Int), .int .u32 (pB : Int), .bool pH] _ 32 rfl rfl R_3.out size32 rfl (by simp [Value.oneCell']) ?_; intro w4 hm_ hst_ hbl_; have B_4 := Aside0.mk (B_3.out.trans (hbl_ _ GR.out)); have R_4 := Aside0.mk (hm_); clear R_3 hm_ hst_ hbl_))
 refine bodyPost_ret (results_ct rfl _ _ gr 32 #[.int .u32 (pX : Int), .int .u32 (pB : Int), .bool pH] (0, 0) _ rfl R_4.out Try.underlying32 rfl (by kernel_rfl)) rfl ?_
 exact ⟨rfl, B_4.out⟩
set_option maxHeartbeats 2000000 in
theorem Checkc_calls (g : Nat) (A : Option Addr) (c : Nat) (l : List (Nat × Nat)) (hv : Val l) (w : World) (hC : CvB w g A c l) (y X B : Nat) (H : Bool) (hy : y < 4294967296) (hX : X < 4294967296) :
    Calls Try.prog 14 #[.pointer (some ⟨g, 0, none⟩), .int .u32 (y : Int), .agg #[.int .u32 (X : Int), .int .u32 (B : Int), .bool H]] w fun e w' => e = .returned (.bool (ckP (atP l) (lo0 l) (hi0 l) y ⟨X, B, H⟩)) ∧ Below w.heap.size w w' := by
 have RF := ris_at hv
 have EN := ends_ok hv
 have HC : Aside0 (CvB w g A c l) := ⟨hC⟩
 have HV := Aside0.mk hv
 obtain ⟨F, hF⟩ : ∃ F, atP l = F := ⟨_, rfl⟩
 obtain ⟨lo, hlo⟩ : ∃ u, lo0 l = u := ⟨_, rfl⟩
 obtain ⟨hi, hhi⟩ : ∃ u, hi0 l = u := ⟨_, rfl⟩
 rw [hF, hlo, hhi]
 rw [hF] at RF
 rw [hlo, hhi] at EN
 have HFI : Aside0 (∀ W, Below w.heap.size w W → Calls Try.prog 42 #[.iface 26 (.pointer (some ⟨g, 0, none⟩)), .int .u32 (lo : Int), .int .u32 (hi : Int), .int .u32 (y : Int), .agg #[.int .u32 (X : Int), .int .u32 (B : Int), .bool H]] W fun e w' => e = .returned (.bool (ckP F lo hi y ⟨X, B, H⟩)) ∧ Below W.heap.size W w') := ⟨fun W hb => by
  exact provedc_calls g lo hi y X B H F W EN.1 EN.2.1 hy hX RF.word (fun W2 x hx h2 => by rw [← hF]; exact At_calls g A c l hv x hx W2 ((hC.below hb).below h2))⟩
 have B_0 : Aside0 (Below w.heap.size w w) := ⟨Below.refl _ _⟩
 have HLO := Aside0.mk hlo
 have HHI := Aside0.mk hhi
 unfold lo0 at HLO
 unfold hi0 at HHI
 clear hC hv hF hlo hhi hy hX RF EN
 go_enter Try.func14, Try.ntmps14
 go_wp2_with (first | ((with_reducible refine gate_dst (N := 5) rfl ?_); refine box_event ?hg (N := 5) ?hd (cs := #[.int .u32 (X : Int), .int .u32 (B : Int), .bool H]) (t := 32) ?hr ?_; (case hd => rfl); (case hg => rfl); (case hr => first | (go_simp; done) | (go_simp; rfl)); intro gq hg_ w1 hm_ hb_; have GQ := Aside0.mk (show w.heap.size ≤ gq by rw [hg_]; exact B_0.out.size); have B_1 := Aside0.mk (below_step B_0.out hb_); have Q_1 := Aside0.mk (hm_); clear hm_ hb_ hg_) | (go_at_call 40; (with_reducible refine (ends_calls g A c l HV.out _ (HC.out.below B_1.out)).mono ?_); rw [HLO.out, HHI.out]; rintro e w2 ⟨rfl, hb⟩; have B_2 := Aside0.mk (below_step B_1.out hb); have Q_2 := Aside0.mk (blk_below Q_1.out hb); clear Q_1; clear hb) | ((with_reducible refine gate_dst (N := 19) rfl ?_); refine Kd.event_run rfl (v := .agg #[.int .u32 (X : Int), .int .u32 (B : Int), .bool H]) (w1 := w2) ?hr ?_; (case hr => exact load32 (by rfl) rfl (Q_2.out))) | (go_at_call 42; (with_reducible refine (HFI.out _ B_2.out).mono ?_); rintro e w3 ⟨rfl, hb⟩; have B_3 := Aside0.mk (below_step B_2.out hb); have Q_3 := Aside0.mk (blk_below Q_2.out hb); clear Q_2; clear hb))
 go_ret
 exact ⟨rfl, B_3.out⟩
end Go.Proofs.Ytkicfaboibfbpaa.A
end
section
set_option linter.unusedVariables false
set_option linter.unusedSimpArgs false
namespace Go.Proofs.Ytkicfaboibfbpaa.A
open Go.RowKit Go.Proofs.YtkicfaboibfbpaaW.PrintWords Go.Proofs.YtkicfaboibfbpaaW.PrintLast Go.Proofs.YtkicfaboibfbpaaW.PrintMore Go.Proofs.Ytkicfaboibfbpaa.PCurveAts
/-- a row of pointers to curves -/
def pk : Kd Nat := Kd.scalar (fun g : Nat => .pointer (some ⟨g, 0, none⟩)) (fun _ => rfl)
theorem info26 : (Try.prog.info? 26).map (fun i => (i.zero, i.size, i.bytes)) = some (some (.pointer none), 1, 8) := by kernel_rfl
theorem pk_at {w : World} {A : Option Addr} {gs : List Nat} (h : pk.C w A gs.length gs) (i : Nat) (hi : i < gs.length) : ∃ ad, A = some ad ∧ w.cell? (ad.add i) = some (.pointer (some ⟨gs.getD i 0, 0, none⟩)) := by
 obtain ⟨ad, cs, hA, hl, hK, hc⟩ := Kd.C_get h 0 (i : Int) (by omega) (by omega)
 rw [Int.toNat_natCast] at hK hc
 have hK' : cs = [.pointer (some ⟨gs.getD i 0, 0, none⟩)] := hK
 have := hc 0 _ (by rw [hK']; rfl)
 exact ⟨ad, hA, by simpa [pk, Kd.scalar] using this⟩
/-- the curves of a row -/
def Cvs (w : World) (gs : List Nat) (ls : List (List (Nat × Nat))) : Prop := gs.length = ls.length ∧ ∀ i, i < gs.length → ∃ A c, CvB w (gs.getD i 0) A c (ls.getD i [])
theorem Cvs.below {w w' : World} {gs : List Nat} {ls : List (List (Nat × Nat))} (h : Cvs w gs ls) (hb : Below w.heap.size w w') : Cvs w' gs ls := ⟨h.1, fun i hi => by obtain ⟨A, c, h1⟩ := h.2 i hi; exact ⟨A, c, h1.below hb⟩⟩
/-- a chain in memory -/
def ChB (w : World) (gc : Nat) (gs : List Nat) (ls : List (List (Nat × Nat))) : Prop := (∃ A c, w.heap[gc]? = some (.cells #[.slice A gs.length c] 83 (0, 0)) ∧ gs.length ≤ c ∧ pk.C w A gs.length gs) ∧ Cvs w gs ls
theorem ChB.below {w w' : World} {gc : Nat} {gs : List Nat} {ls : List (List (Nat × Nat))} (h : ChB w gc gs ls) (hb : Below w.heap.size w w') : ChB w' gc gs ls := by
 obtain ⟨⟨A, c, h1, h2, h3⟩, h4⟩ := h
 exact ⟨⟨A, c, blk_below h1 hb, h2, Kd.C_below h3 hb⟩, h4.below hb⟩
theorem pk_made (w : World) : pk.R 26 (w.alloc (.cells #[] 26 (0, 0))) w.heap.size (fun _ => True) (.slice (some ⟨w.heap.size, 0, none⟩) 0 0) [] :=
 ⟨fun _ _ => trivial, [], World.ownsRow_made w #[] 0 (Nat.le_refl _) (Nat.zero_le _) (by simp), Reps.none _ _⟩
theorem atA_drop (ls : List (List (Nat × Nat))) {i : Nat} (h : i < ls.length) (x : Nat) : atA (ls.drop i) x = atA (ls.drop (i + 1)) (atP (ls.getD i []) x) := by
 rw [drop_cons ls [] h]; rfl
theorem getD_mem {α : Type} {ls : List α} {i : Nat} (h : i < ls.length) (d : α) : ls.getD i d ∈ ls := by
 rw [List.getD_eq_getElem?_getD, List.getElem?_eq_getElem h]; exact List.getElem_mem h
set_option maxHeartbeats 4000000 in
theorem ChainAt_calls (gc : Nat) (gs : List Nat) (ls : List (List (Nat × Nat))) (hv : ∀ l ∈ ls, Val l) (h8 : ls.length ≤ 8) (h0 : 1 ≤ ls.length) (x : Nat) (hx : x < 4294967296) (w : World) (hC : ChB w gc gs ls) :
    Calls Try.prog 22 #[.pointer (some ⟨gc, 0, none⟩), .int .u32 (x : Int)] w fun e w' => e = .returned (.int .u32 ((atA ls x : Nat) : Int)) ∧ Below w.heap.size w w' := by
 obtain ⟨⟨A, c, hM, hc, hK⟩, hL⟩ := hC
 obtain ⟨ad, rfl, _⟩ := pk_at hK 0 (by rw [hL.1]; omega)
 obtain ⟨n, hn⟩ : ∃ n, gs.length = n := ⟨_, rfl⟩
 have hnl : n = ls.length := by rw [← hn]; exact hL.1
 rw [hn] at hM hc
 have gs0 := (blk_cell hM 0).trans rfl
 have HV := Aside0.mk hv
 have HK : Aside0 (pk.C w (some ad) gs.length gs) := ⟨hK⟩
 have HL := Aside0.mk hL
 have HN := Aside0.mk hn
 have HX := Aside0.mk hx
 have HNL := Aside0.mk hnl
 have H8 : Aside0 (n ≤ 8) := ⟨by omega⟩
 clear hM hc hK hL hv hx hn hnl h8 h0
 go_enter Try.func22, Try.ntmps22
 go_wp2
 go_loopg [1, 12] n (fun kx s1 s12 wr => ∃ (i xi : Nat), s1 = .int .u32 (xi : Int) ∧ s12 = .int .i64 (i : Int) ∧ i ≤ n ∧ n - i ≤ kx ∧ Aside0 (Below w.heap.size w wr) ∧ Aside0 (xi < 4294967296 ∧ atA (ls.drop i) xi = atA ls x))
 case atStart => exact ⟨0, x, rfl, rfl, Nat.zero_le _, by omega, ⟨Below.refl _ _⟩, ⟨HX.out, rfl⟩⟩
 case round =>
  obtain ⟨i, xi, rfl, rfl, i1, i2, HB, I⟩ := hrel
  by_cases hin : i < n
  ·have e1 : decide ((0 : Int) ≤ (i : Int)) = true := decide_eq_true (by omega)
   have e2 : decide ((i : Int) < (n : Int)) = true := decide_eq_true (by omega)
   have e5 : ((0 : Int) ≤ (i : Int)) = True := eq_true (by omega)
   have e6 : ((i : Int) < (n : Int)) = True := eq_true (by omega)
   have e7 : (i < n) = True := eq_true (by omega)
   have h8 := H8.out
   have wi : IntKind.i64.wrap ((i : Int) + 1) = ((i + 1 : Nat) : Int) := by rw [show IntKind.i64.wrap ((i : Int) + 1) = wrap64 ((i : Int) + 1) from i64_w _, w64 (by omega) (by omega)]; omega
   have hil : i < ls.length := by have := HNL.out; omega
   obtain ⟨ad2, e, hp⟩ := pk_at (Kd.C_below HK.out HB.out) i (by have := HN.out; omega)
   obtain rfl := Option.some.inj e
   obtain ⟨Ai, ci, hci⟩ := HL.out.2 i (by have := HN.out; omega)
   obtain ⟨gi, hgi⟩ : ∃ g, gs.getD i 0 = g := ⟨_, rfl⟩
   rw [hgi] at hp hci
   have HC : Aside0 (CvB wr gi Ai ci (ls.getD i [])) := ⟨hci.below HB.out⟩
   have HVI : Aside0 (Val (ls.getD i [])) := ⟨HV.out _ (getD_mem hil _)⟩
   have IX : Aside0 (xi < 4294967296) := ⟨I.out.1⟩
   have IE : Aside0 (atA (ls.drop (i + 1)) (atP (ls.getD i []) xi) = atA ls x) := ⟨by rw [← atA_drop ls hil]; exact I.out.2⟩
   have HIN := Aside0.mk hin
   clear hil hgi hci hin I h8 e
   go_wp2_with (go_at_call 17; (with_reducible refine (At_calls gi Ai ci _ HVI.out xi IX.out _ HC.out).mono ?_); rintro e w5 ⟨rfl, hb⟩; have B5 := Aside0.mk (below_step HB.out hb); clear hb)
   go_roundg (n - (i + 1))
   case measure => have := HIN.out; omega
   case rel => exact ⟨i + 1, _, rfl, by first | rfl | (congr 1; omega), HIN.out, by omega, ⟨B5.out⟩, ⟨at_lt HVI.out IX.out, IE.out⟩⟩
  ·obtain rfl : i = n := by omega
   have dd : decide ((i : Int) < (i : Int)) = false := decide_eq_false (by omega)
   have hE := I.out.2
   rw [List.drop_eq_nil_of_le (by have := HNL.out; omega)] at hE
   have IE : Aside0 (xi = atA ls x) := ⟨hE⟩
   clear hE hin
   go_wp2
   go_ret
   exact ⟨by rw [← IE.out]; rfl, HB.out⟩
set_option maxHeartbeats 2000000 in
theorem Leasth_calls (g : Nat) (gs : List Nat) (ls : List (List (Nat × Nat))) (hv : ∀ l ∈ ls, Val l) (h8 : ls.length ≤ 8) (h0 : 1 ≤ ls.length) (w : World) (hC : ChB w g gs ls) (y : Nat) (hy : y < 4294967296) :
    Calls Try.prog 27 #[.pointer (some ⟨g, 0, none⟩), .int .u32 (y : Int)] w fun e w' => e = .returned (.tuple #[.agg #[.int .u32 ((lst (atA ls) (lo0 (ls.getD 0 [])) (hi0 (ls.getD 0 [])) y).X : Int), .int .u32 ((lst (atA ls) (lo0 (ls.getD 0 [])) (hi0 (ls.getD 0 [])) y).B : Int), .bool (lst (atA ls) (lo0 (ls.getD 0 [])) (hi0 (ls.getD 0 [])) y).H], .int .i64 ((lerr (atA ls) (hi0 (ls.getD 0 [])) y : Nat) : Int)]) ∧ Below w.heap.size w w' := by
 have RF := ris_all ls hv
 have hv0 := hv _ (getD_mem (show 0 < ls.length by omega) [])
 have EN := ends_ok hv0
 have HC : Aside0 (ChB w g gs ls) := ⟨hC⟩
 obtain ⟨⟨A, c, hM, hc, hK⟩, hL⟩ := hC
 obtain ⟨ad, rfl, hp0⟩ := pk_at hK 0 (by rw [hL.1]; omega)
 obtain ⟨A0, c0, hC0⟩ := hL.2 0 (by rw [hL.1]; omega)
 obtain ⟨n, hn⟩ : ∃ n, gs.length = n := ⟨_, rfl⟩
 have hnl : n = ls.length := by rw [← hn]; exact hL.1
 rw [hn] at hM hc
 obtain ⟨gi, hgi⟩ : ∃ u, gs.getD 0 0 = u := ⟨_, rfl⟩
 obtain ⟨l0, hl0⟩ : ∃ u, ls.getD 0 [] = u := ⟨_, rfl⟩
 rw [hgi] at hp0 hC0
 rw [hl0] at hC0 hv0 EN ⊢
 rw [Addr.add_zero'] at hp0
 have d3 : decide ((0 : Int) < (n : Int)) = true := decide_eq_true (by omega)
 have d4 : (0 < n) = True := eq_true (by omega)
 have HCC : Aside0 (CvB w gi A0 c0 l0) := ⟨hC0⟩
 have HV := Aside0.mk hv0
 have HM := Aside0.mk hM
 have HP := Aside0.mk hp0
 obtain ⟨F, hF⟩ : ∃ F, atA ls = F := ⟨_, rfl⟩
 obtain ⟨lo, hlo⟩ : ∃ u, lo0 l0 = u := ⟨_, rfl⟩
 obtain ⟨hi, hhi⟩ : ∃ u, hi0 l0 = u := ⟨_, rfl⟩
 rw [hF, hlo, hhi]
 rw [hF] at RF
 rw [hlo, hhi] at EN
 obtain ⟨⟨pX, pB, pH⟩, hp⟩ : ∃ p, lst F lo hi y = p := ⟨_, rfl⟩
 obtain ⟨pe, hpe⟩ : ∃ n, lerr F hi y = n := ⟨_, rfl⟩
 rw [hp, hpe]
 have HFI : Aside0 (∀ W, Below w.heap.size w W → Calls Try.prog 41 #[.iface 48 (.pointer (some ⟨g, 0, none⟩)), .int .u32 (lo : Int), .int .u32 (hi : Int), .int .u32 (y : Int)] W fun e w' => e = .returned (.tuple #[.agg #[.int .u32 (pX : Int), .int .u32 (pB : Int), .bool pH], .int .i64 (pe : Int)]) ∧ Below W.heap.size W w') := ⟨fun W hb => by
  have := firsth_calls g lo hi y F W RF EN.1 EN.2.1 hy EN.2.2.1 EN.2.2.2.1 EN.2.2.2.2 (fun W2 x hx h2 => by rw [← hF]; exact ChainAt_calls g gs ls hv h8 h0 x hx W2 ((HC.out.below hb).below h2))
  rw [hp, hpe] at this
  exact this⟩
 have B_0 : Aside0 (Below w.heap.size w w) := ⟨Below.refl _ _⟩
 have HLO := Aside0.mk hlo
 have HHI := Aside0.mk hhi
 unfold lo0 at HLO
 unfold hi0 at HHI
 clear hC0 hv hv0 hF hlo hhi hl0 hgi hK hL hc h8 h0 hn hnl hM hp0 hy RF EN hp hpe
 go_enter Try.func27, Try.ntmps27
 go_wp2_with (first | ((with_reducible refine gate_dst (N := 4) rfl ?_); refine box_event ?hg (N := 4) ?hd (cs := #[.int .u32 0, .int .u32 0, .bool false]) (t := 32) ?hr ?_; (case hd => rfl); (case hg => rfl); (case hr => first | (go_simp; done) | (go_simp; rfl)); intro gr hg_ w1 hm_ hb_; have GR := Aside0.mk (show w.heap.size ≤ gr by rw [hg_]; exact B_0.out.size); have B_1 := Aside0.mk (below_step B_0.out hb_); have R_1 := Aside0.mk (hm_); have cM := (blk_cell (blk_below HM.out B_1.out) 0).trans rfl; have cP := pw_cell_below B_1.out HP.out; clear hm_ hb_ hg_) | (go_at_call 40; (with_reducible refine (ends_calls gi A0 c0 l0 HV.out _ (HCC.out.below B_1.out)).mono ?_); rw [HLO.out, HHI.out]; rintro e w2 ⟨rfl, hb⟩; have B_2 := Aside0.mk (below_step B_1.out hb); have R_2 := Aside0.mk (blk_below R_1.out hb); clear R_1; clear hb) | (go_at_call 41; (with_reducible refine (HFI.out _ B_2.out).mono ?_); rintro e w3 ⟨rfl, hb⟩; have B_3 := Aside0.mk (below_step B_2.out hb); have R_3 := Aside0.mk (blk_below R_2.out hb); clear R_2; clear hb) | ((with_reducible refine gate_store (p := 4) rfl ?_); refine store_event rfl rfl rfl gr #[.int .u32 (pX : Int), .int .u32 (pB : Int), .bool pH] _ 32 rfl rfl R_3.out size32 rfl (by simp [Value.oneCell']) ?_; intro w4 hm_ hst_ hbl_; have B_4 := Aside0.mk (B_3.out.trans (hbl_ _ GR.out)); have R_4 := Aside0.mk (hm_); clear R_3 hm_ hst_ hbl_))
 refine bodyPost_ret (results_ct rfl _ _ gr 32 #[.int .u32 (pX : Int), .int .u32 (pB : Int), .bool pH] (0, 0) _ rfl R_4.out Try.underlying32 rfl (by kernel_rfl)) rfl ?_
 exact ⟨rfl, B_4.out⟩
set_option maxHeartbeats 2000000 in
theorem Checkh_calls (g : Nat) (gs : List Nat) (ls : List (List (Nat × Nat))) (hv : ∀ l ∈ ls, Val l) (h8 : ls.length ≤ 8) (h0 : 1 ≤ ls.length) (w : World) (hC : ChB w g gs ls) (y X B : Nat) (H : Bool) (hy : y < 4294967296) (hX : X < 4294967296) :
    Calls Try.prog 28 #[.pointer (some ⟨g, 0, none⟩), .int .u32 (y : Int), .agg #[.int .u32 (X : Int), .int .u32 (B : Int), .bool H]] w fun e w' => e = .returned (.bool (ckP (atA ls) (lo0 (ls.getD 0 [])) (hi0 (ls.getD 0 [])) y ⟨X, B, H⟩)) ∧ Below w.heap.size w w' := by
 have RF := ris_all ls hv
 have hv0 := hv _ (getD_mem (show 0 < ls.length by omega) [])
 have EN := ends_ok hv0
 have HC : Aside0 (ChB w g gs ls) := ⟨hC⟩
 obtain ⟨⟨A, c, hM, hc, hK⟩, hL⟩ := hC
 obtain ⟨ad, rfl, hp0⟩ := pk_at hK 0 (by rw [hL.1]; omega)
 obtain ⟨A0, c0, hC0⟩ := hL.2 0 (by rw [hL.1]; omega)
 obtain ⟨n, hn⟩ : ∃ n, gs.length = n := ⟨_, rfl⟩
 have hnl : n = ls.length := by rw [← hn]; exact hL.1
 rw [hn] at hM hc
 obtain ⟨gi, hgi⟩ : ∃ u, gs.getD 0 0 = u := ⟨_, rfl⟩
 obtain ⟨l0, hl0⟩ : ∃ u, ls.getD 0 [] = u := ⟨_, rfl⟩
 rw [hgi] at hp0 hC0
 rw [hl0] at hC0 hv0 EN ⊢
 rw [Addr.add_zero'] at hp0
 have d3 : decide ((0 : Int) < (n : Int)) = true := decide_eq_true (by omega)
 have d4 : (0 < n) = True := eq_true (by omega)
 have HCC : Aside0 (CvB w gi A0 c0 l0) := ⟨hC0⟩
 have HV := Aside0.mk hv0
 have HM := Aside0.mk hM
 have HP := Aside0.mk hp0
 obtain ⟨F, hF⟩ : ∃ F, atA ls = F := ⟨_, rfl⟩
 obtain ⟨lo, hlo⟩ : ∃ u, lo0 l0 = u := ⟨_, rfl⟩
 obtain ⟨hi, hhi⟩ : ∃ u, hi0 l0 = u := ⟨_, rfl⟩
 rw [hF, hlo, hhi]
 rw [hF] at RF
 rw [hlo, hhi] at EN
 have HFI : Aside0 (∀ W, Below w.heap.size w W → Calls Try.prog 42 #[.iface 48 (.pointer (some ⟨g, 0, none⟩)), .int .u32 (lo : Int), .int .u32 (hi : Int), .int .u32 (y : Int), .agg #[.int .u32 (X : Int), .int .u32 (B : Int), .bool H]] W fun e w' => e = .returned (.bool (ckP F lo hi y ⟨X, B, H⟩)) ∧ Below W.heap.size W w') := ⟨fun W hb => by
  exact provedh_calls g lo hi y X B H F W EN.1 EN.2.1 hy hX RF.word (fun W2 x hx h2 => by rw [← hF]; exact ChainAt_calls g gs ls hv h8 h0 x hx W2 ((HC.out.below hb).below h2))⟩
 have B_0 : Aside0 (Below w.heap.size w w) := ⟨Below.refl _ _⟩
 have HLO := Aside0.mk hlo
 have HHI := Aside0.mk hhi
 unfold lo0 at HLO
 unfold hi0 at HHI
 clear hC0 hv hv0 hF hlo hhi hl0 hgi hK hL hc h8 h0 hn hnl hM hp0 hy hX RF EN
 go_enter Try.func28, Try.ntmps28
 go_wp2_with (first | ((with_reducible refine gate_dst (N := 5) rfl ?_); refine box_event ?hg (N := 5) ?hd (cs := #[.int .u32 (X : Int), .int .u32 (B : Int), .bool H]) (t := 32) ?hr ?_; (case hd => rfl); (case hg => rfl); (case hr => first | (go_simp; done) | (go_simp; rfl)); intro gq hg_ w1 hm_ hb_; have GQ := Aside0.mk (show w.heap.size ≤ gq by rw [hg_]; exact B_0.out.size); have B_1 := Aside0.mk (below_step B_0.out hb_); have Q_1 := Aside0.mk (hm_); have cM := (blk_cell (blk_below HM.out B_1.out) 0).trans rfl; have cP := pw_cell_below B_1.out HP.out; clear hm_ hb_ hg_) | (go_at_call 40; (with_reducible refine (ends_calls gi A0 c0 l0 HV.out _ (HCC.out.below B_1.out)).mono ?_); rw [HLO.out, HHI.out]; rintro e w2 ⟨rfl, hb⟩; have B_2 := Aside0.mk (below_step B_1.out hb); have Q_2 := Aside0.mk (blk_below Q_1.out hb); clear Q_1; clear hb) | ((with_reducible refine gate_dst (N := 24) rfl ?_); refine Kd.event_run rfl (v := .agg #[.int .u32 (X : Int), .int .u32 (B : Int), .bool H]) (w1 := w2) ?hr ?_; (case hr => exact load32 (by rfl) rfl (Q_2.out))) | (go_at_call 42; (with_reducible refine (HFI.out _ B_2.out).mono ?_); rintro e w3 ⟨rfl, hb⟩; have B_3 := Aside0.mk (below_step B_2.out hb); have Q_3 := Aside0.mk (blk_below Q_2.out hb); clear Q_2; clear hb))
 go_ret
 exact ⟨rfl, B_3.out⟩
end Go.Proofs.Ytkicfaboibfbpaa.A
end
section
set_option linter.unusedVariables false
set_option linter.unusedSimpArgs false
namespace Go.Proofs.Ytkicfaboibfbpaa.A
open Go.RowKit Go.Proofs.YtkicfaboibfbpaaW.PrintWords Go.Proofs.YtkicfaboibfbpaaW.PrintLast Go.Proofs.YtkicfaboibfbpaaW.PrintMore Go.Proofs.Ytkicfaboibfbpaa.PCurveAts
abbrev Hd := Option Addr × Nat × Nat
/-- a row of headers -/
def hk : Kd Hd := Kd.scalar (fun h : Hd => .slice h.1 h.2.1 h.2.2) (fun _ => rfl)
/-- rows of knots in memory -/
def KsA (w : World) (A : Option Addr) (ls : List (List (Nat × Nat))) : Prop := ∃ hs : List Hd, hs.length = ls.length ∧ hk.C w A hs.length hs ∧ ∀ i, i < ls.length → (hs.getD i (none, 0, 0)).2.1 = (ls.getD i []).length ∧ (ls.getD i []).length ≤ (hs.getD i (none, 0, 0)).2.2 ∧ Kn w (hs.getD i (none, 0, 0)).1 (ls.getD i [])
theorem KsA.below {w w' : World} {A : Option Addr} {ls : List (List (Nat × Nat))} (h : KsA w A ls) (hb : Below w.heap.size w w') : KsA w' A ls := by
 obtain ⟨hs, h1, h2, h3⟩ := h
 exact ⟨hs, h1, Kd.C_below h2 hb, fun i hi => ⟨(h3 i hi).1, (h3 i hi).2.1, (h3 i hi).2.2.below hb⟩⟩
theorem KsA.at_ {w : World} {A : Option Addr} {ls : List (List (Nat × Nat))} (h : KsA w A ls) (i : Nat) (hi : i < ls.length) : ∃ ad B c, A = some ad ∧ w.cell? (ad.add i) = some (.slice B (ls.getD i []).length c) ∧ (ls.getD i []).length ≤ c ∧ Kn w B (ls.getD i []) := by
 obtain ⟨hs, h1, h2, h3⟩ := h
 obtain ⟨ad, cs, hA, hl, hK, hc⟩ := Kd.C_get h2 (none, 0, 0) (i : Int) (by omega) (by omega)
 rw [Int.toNat_natCast] at hK hc
 obtain ⟨a1, a2, a3⟩ := h3 i hi
 have hK' : cs = [.slice (hs.getD i (none, 0, 0)).1 (hs.getD i (none, 0, 0)).2.1 (hs.getD i (none, 0, 0)).2.2] := hK
 have := hc 0 _ (by rw [hK']; rfl)
 rw [a1] at this
 exact ⟨ad, _, _, hA, by simpa [hk, Kd.scalar] using this, a2, a3⟩
end Go.Proofs.Ytkicfaboibfbpaa.A
end
section
set_option linter.unusedVariables false
set_option linter.unusedSimpArgs false
namespace Go.Proofs.Ytkicfaboibfbpaa.A
open Go.RowKit Go.Proofs.YtkicfaboibfbpaaW.PrintWords Go.Proofs.YtkicfaboibfbpaaW.PrintLast Go.Proofs.YtkicfaboibfbpaaW.PrintMore Go.Proofs.Ytkicfaboibfbpaa.PCurveAts
theorem KR.as {w : World} {base : Nat} {v : Value} {l : List (Nat × Nat)} (h : KR w base v l) : ∃ A n c, v = .slice A n c ∧ n = l.length := by
 obtain ⟨A, c, e⟩ := h.slice
 exact ⟨A, _, c, e, rfl⟩
end Go.Proofs.Ytkicfaboibfbpaa.A
end
section
set_option linter.unusedVariables false
set_option linter.unusedSimpArgs false
namespace Go.Proofs.Ytkicfaboibfbpaa.A
open Go.RowKit Go.Proofs.YtkicfaboibfbpaaW.PrintWords Go.Proofs.YtkicfaboibfbpaaW.PrintLast Go.Proofs.YtkicfaboibfbpaaW.PrintMore Go.Proofs.Ytkicfaboibfbpaa.PCurveAts
/-- a new curve: all its own -/
def NewC (w : World) (b g : Nat) (B : Option Addr) (cb : Nat) (l : List (Nat × Nat)) : Prop := b ≤ g ∧ CvB w g B cb l ∧ KR w b (.slice B l.length cb) l
theorem NewC.below {w w1 : World} {b g cb : Nat} {B : Option Addr} {l : List (Nat × Nat)} (h : NewC w b g B cb l) (hb : Below w.heap.size w w1) : NewC w1 b g B cb l := ⟨h.1, h.2.1.below hb, h.2.2.below hb⟩
theorem New_ok {A : Option Addr} {c : Nat} {l : List (Nat × Nat)} (hl : kok l) (h64 : l.length < 1000) (hc : l.length ≤ c) (h0 : chk l = 0) (w : World) (hK : Kn w A l) : Calls Try.prog 31 #[.slice A l.length c] w fun e w' => ∃ g B cb, e = .returned (.tuple #[.pointer (some ⟨g, 0, none⟩), .int .i64 0]) ∧ NewC w' w.heap.size g B cb l ∧ Below w.heap.size w w' := by
 refine (New_calls A c l hl h64 hc w hK).mono ?_
 rintro e w' ⟨v, rfl, hb, h⟩
 obtain ⟨g, B, cb, rfl, hg, hC, hR⟩ := (h.resolve_left (fun h => h.1 h0)).2
 rw [h0]
 exact ⟨g, B, cb, rfl, ⟨hg, hC, hR⟩, hb⟩
section
variable {P : Program} {ops : Array Oper} {Q : Exit → Act → World → Prop} {o : Oper} {rest : List Oper} {a : Act}
end
end Go.Proofs.Ytkicfaboibfbpaa.A
end
section
set_option linter.unusedVariables false
set_option linter.unusedSimpArgs false
namespace Go.Proofs.Ytkicfaboibfbpaa.A
open Go.RowKit Go.Proofs.YtkicfaboibfbpaaW.PrintWords Go.Proofs.YtkicfaboibfbpaaW.PrintLast Go.Proofs.YtkicfaboibfbpaaW.PrintMore Go.Proofs.Ytkicfaboibfbpaa.PCurveAts
theorem eqA32 (d : Nat) (w : World) (x0 y0 x1 y1 : Int) (x2 y2 : Bool) :
    (Op.equalIn (d + 2) 32 (.agg #[.int .u32 x0, .int .u32 x1, .bool x2]) (.agg #[.int .u32 y0, .int .u32 y1, .bool y2])).run Try.prog w = .ok (x0 == y0 && (x1 == y1 && (x2 == y2))) w := by
 refine eqA_of Try.underlying32 (by kernel_rfl) ?_
 refine eqf_cons (by rfl) (by go_simp; rfl) (by go_simp; rfl) (by go_simp) ?_
 refine eqf_cons (by rfl) (by go_simp; rfl) (by go_simp; rfl) (by go_simp) ?_
 exact eqf_last (by rfl) (by go_simp; rfl) (by go_simp; rfl) (by go_simp)
theorem pf_eq (p q : Pf) : ((p.X : Int) == (q.X : Int) && ((p.B : Int) == (q.B : Int) && (p.H == q.H))) = decide (p = q) := by
 obtain ⟨a, b, c⟩ := p
 obtain ⟨d, e, f⟩ := q
 rw [Bool.eq_iff_iff]
 simp only [Bool.and_eq_true, beq_iff_eq, decide_eq_true_iff, Pf.mk.injEq]
 constructor
 ·rintro ⟨h1, h2, h3⟩; exact ⟨by omega, by omega, h3⟩
 ·rintro ⟨h1, h2, h3⟩; exact ⟨by omega, by omega, h3⟩
theorem eql32 (p q : Pf) (w : World) : (binOp .eql 32 (.agg #[.int .u32 (p.X : Int), .int .u32 (p.B : Int), .bool p.H]) (.agg #[.int .u32 (q.X : Int), .int .u32 (q.B : Int), .bool q.H])).run Try.prog w = .ok (.bool (decide (p = q))) w := by
 rw [run_eql_struct, eqA32 9998, Result.andThen_ok, pf_eq]
theorem neq32 (p q : Pf) (w : World) : (binOp .neq 32 (.agg #[.int .u32 (p.X : Int), .int .u32 (p.B : Int), .bool p.H]) (.agg #[.int .u32 (q.X : Int), .int .u32 (q.B : Int), .bool q.H])).run Try.prog w = .ok (.bool (!decide (p = q))) w := by
 have e := eqA32 9998 w p.X q.X p.B q.B p.H q.H
 go_simp
 rw [← pf_eq, Bool.not_and, Bool.not_and]
/-- the chapter's curve -/
def mk : List (Nat × Nat) := [(0, 0), (1065353216, 1056964608), (1073741824, 1082130432)]
theorem mk0 : chk mk = 0 := by decide +kernel
theorem mk1 : atP mk 1056964608 = 1048576000 := by decide +kernel
theorem mk2 : atP mk 1069547520 = 1074790400 := by decide +kernel
theorem mk3 : atP mk 3212836864 = 0 := by decide +kernel
theorem mk4 : atP mk 2139095041 = 2143289344 := by decide +kernel
theorem mk5 : ckP (atP mk) 0 1073741824 1048576000 ⟨1056964608, 1056964607, true⟩ = true := by decide +kernel
theorem mk6 : noY (atP mk) 1073741824 1048576000 = false := by decide +kernel
theorem mk7 : noY (atP mk) 1073741824 1084227584 = true := by decide +kernel
theorem mk_ok : kok mk := by intro k hk; simp [mk] at hk; rcases hk with rfl | rfl | rfl <;> decide
theorem mkV : Val mk := chk_val mk_ok mk0
theorem mkL : lst (atP mk) (lo0 mk) (hi0 mk) 1048576000 = ⟨1056964608, 1056964607, true⟩ := by
 have e := ends_ok mkV
 have h := check_lst (ris_at mkV) e.1 e.2.1 e.2.2.1 e.2.2.2.1 e.2.2.2.2 (y := 1048576000) (by decide) ⟨1056964608, 1056964607, true⟩ (by decide)
 have h2 : ckP (atP mk) (lo0 mk) (hi0 mk) 1048576000 ⟨1056964608, 1056964607, true⟩ = true := mk5
 have h3 : noY (atP mk) (hi0 mk) 1048576000 = false := mk6
 rw [h2, h3, Bool.not_false, Bool.true_and] at h
 exact (of_decide_eq_true h.symm).symm
theorem mk_new {w : World} {g : Nat} (h : w.heap[g]? = some (.cells #[.int .u32 0, .int .u32 0, .int .u32 1065353216, .int .u32 1056964608, .int .u32 1073741824, .int .u32 1082130432] 43 (0, 0))) : Kn w (some ⟨g, 0, none⟩) mk := by
 refine ⟨rfl, by decide, fun _ => ⟨_, rfl, fun j p hj => ?_⟩⟩
 have c0 := (blk_cell h 0).trans rfl
 have c1 := (blk_cell h 1).trans rfl
 have c2 := (blk_cell h 2).trans rfl
 have c3 := (blk_cell h 3).trans rfl
 have c4 := (blk_cell h 4).trans rfl
 have c5 := (blk_cell h 5).trans rfl
 match j, hj with
 | 0, hj => obtain rfl := Option.some.inj hj; exact ⟨_, rfl, k43.K_of_M (k43_mkM w 0 (fun _ => True) _), fun i u hu => by
     match i, hu with
     | 0, hu => obtain rfl := Option.some.inj hu; exact c0
     | 1, hu => obtain rfl := Option.some.inj hu; exact c1⟩
 | 1, hj => obtain rfl := Option.some.inj hj; exact ⟨_, rfl, k43.K_of_M (k43_mkM w 0 (fun _ => True) _), fun i u hu => by
     match i, hu with
     | 0, hu => obtain rfl := Option.some.inj hu; exact c2
     | 1, hu => obtain rfl := Option.some.inj hu; exact c3⟩
 | 2, hj => obtain rfl := Option.some.inj hj; exact ⟨_, rfl, k43.K_of_M (k43_mkM w 0 (fun _ => True) _), fun i u hu => by
     match i, hu with
     | 0, hu => obtain rfl := Option.some.inj hu; exact c4
     | 1, hu => obtain rfl := Option.some.inj hu; exact c5⟩
set_option maxHeartbeats 2000000 in
theorem made_calls (w : World) : Calls Try.prog 36 #[] w fun e w' => ∃ g B cb, e = .returned (.pointer (some ⟨g, 0, none⟩)) ∧ CvB w' g B cb mk ∧ Below w.heap.size w w' := by
 have HN : Aside0 (∀ W A c, Kn W A mk → 3 ≤ c → Calls Try.prog 31 #[.slice A 3 c] W fun e w' => ∃ g B cb, e = .returned (.tuple #[.pointer (some ⟨g, 0, none⟩), .int .i64 0]) ∧ NewC w' W.heap.size g B cb mk ∧ Below W.heap.size W w') := ⟨fun W A c h hc => New_ok mk_ok (by decide) hc mk0 W h⟩
 have HK : Aside0 (Kn (w.alloc (.cells #[.int .u32 0, .int .u32 0, .int .u32 1065353216, .int .u32 1056964608, .int .u32 1073741824, .int .u32 1082130432] 43 (0, 0))) (some ⟨w.heap.size, 0, none⟩) mk) := ⟨mk_new (blk_new w _)⟩
 have HB : Aside0 (Below w.heap.size w (w.alloc (.cells #[.int .u32 0, .int .u32 0, .int .u32 1065353216, .int .u32 1056964608, .int .u32 1073741824, .int .u32 1082130432] 43 (0, 0)))) := ⟨below_alloc (Below.refl _ _) _⟩
 go_enter Try.func36, Try.ntmps36
 go_wp2_with ((go_at_call 31; (with_reducible refine (HN.out _ _ _ HK.out (Nat.le_refl _)).mono ?_); rintro e w1 ⟨g, B, cb, rfl, hC, hb⟩; have C1 := Aside0.mk hC; have B1 := Aside0.mk (below_step HB.out hb); clear hC hb))
 go_ret
 exact ⟨g, B, cb, rfl, C1.out.2.1, B1.out⟩
section
variable {ops : Array Oper} {Q : Exit → Act → World → Prop} {o : Oper} {rest : List Oper} {a : Act}
/-- a proof is loaded out of its box, guarded or not -/
theorem loadg32 {W : World} {p : Operand} (ho : o.op = .load 32 p) (hw : Region.wanted o (yielded ops a.tmps) = true) (g : Nat) (x y z : Value) (hp : a.eval p = .pointer (some ⟨g, 0, none⟩)) (hg : W.heap[g]? = some (.cells #[x, y, z] 32 (0, 0)))
    (h : wpList Try.prog ops Q rest (a.put o.dst (.agg #[x, y, z])) W) : wpList Try.prog ops Q (o :: rest) a W := by
 refine wpList_step fun K hK => ?_
 rw [if_pos hw]
 unfold Oper.wp
 rw [load32 ho hp hg]
 exact hK _ _ h
end
set_option maxHeartbeats 8000000 in
set_option maxRecDepth 100000 in
theorem known_calls (w : World) : Calls Try.prog 10 #[] w fun e w' => e = .returned (.bool true) ∧ Below w.heap.size w w' := by
 have HA0 : Aside0 (∀ W g B cb, CvB W g B cb mk → Calls Try.prog 17 #[.pointer (some ⟨g, 0, none⟩), .int .u32 1056964608] W fun e w' => e = .returned (.int .u32 1048576000) ∧ Below W.heap.size W w') := ⟨fun W g B cb h => by
  have := At_calls g B cb mk mkV 1056964608 (by decide) W h
  rw [mk1] at this
  exact this⟩
 have HA1 : Aside0 (∀ W g B cb, CvB W g B cb mk → Calls Try.prog 17 #[.pointer (some ⟨g, 0, none⟩), .int .u32 1069547520] W fun e w' => e = .returned (.int .u32 1074790400) ∧ Below W.heap.size W w') := ⟨fun W g B cb h => by
  have := At_calls g B cb mk mkV 1069547520 (by decide) W h
  rw [mk2] at this
  exact this⟩
 have HA2 : Aside0 (∀ W g B cb, CvB W g B cb mk → Calls Try.prog 17 #[.pointer (some ⟨g, 0, none⟩), .int .u32 3212836864] W fun e w' => e = .returned (.int .u32 0) ∧ Below W.heap.size W w') := ⟨fun W g B cb h => by
  have := At_calls g B cb mk mkV 3212836864 (by decide) W h
  rw [mk3] at this
  exact this⟩
 have HA3 : Aside0 (∀ W g B cb, CvB W g B cb mk → Calls Try.prog 17 #[.pointer (some ⟨g, 0, none⟩), .int .u32 2139095041] W fun e w' => e = .returned (.int .u32 2143289344) ∧ Below W.heap.size W w') := ⟨fun W g B cb h => by
  have := At_calls g B cb mk mkV 2139095041 (by decide) W h
  rw [mk4] at this
  exact this⟩
 have HL0 : Aside0 (∀ W g B cb, CvB W g B cb mk → Calls Try.prog 13 #[.pointer (some ⟨g, 0, none⟩), .int .u32 1048576000] W fun e w' => e = .returned (.tuple #[.agg #[.int .u32 1056964608, .int .u32 1056964607, .bool true], .int .i64 0]) ∧ Below W.heap.size W w') := ⟨fun W g B cb h => by
  have := Leastc_calls g B cb mk mkV W h 1048576000 (by decide)
  rw [mkL] at this
  have e : lerr (atP mk) (hi0 mk) 1048576000 = 0 := by unfold lerr; rw [show noY (atP mk) (hi0 mk) 1048576000 = false from mk6]; rfl
  rw [e] at this
  exact this⟩
 have HL1 : Aside0 (∀ W g B cb, CvB W g B cb mk → Calls Try.prog 13 #[.pointer (some ⟨g, 0, none⟩), .int .u32 1084227584] W fun e w' => e = .returned (.tuple #[.agg #[.int .u32 0, .int .u32 0, .bool false], .int .i64 43]) ∧ Below W.heap.size W w') := ⟨fun W g B cb h => by
  have := Leastc_calls g B cb mk mkV W h 1084227584 (by decide)
  have hn : noY (atP mk) (hi0 mk) 1084227584 = true := mk7
  rw [lst_no hn] at this
  have e : lerr (atP mk) (hi0 mk) 1084227584 = 43 := by unfold lerr; rw [hn]; rfl
  rw [e] at this
  exact this⟩
 have HC0 : Aside0 (∀ W g B cb, CvB W g B cb mk → Calls Try.prog 14 #[.pointer (some ⟨g, 0, none⟩), .int .u32 1048576000, .agg #[.int .u32 1056964608, .int .u32 1056964607, .bool true]] W fun e w' => e = .returned (.bool true) ∧ Below W.heap.size W w') := ⟨fun W g B cb h => by
  have := Checkc_calls g B cb mk mkV W h 1048576000 1056964608 1056964607 true (by decide) (by decide)
  rw [show ckP (atP mk) (lo0 mk) (hi0 mk) 1048576000 ⟨1056964608, 1056964607, true⟩ = true from mk5] at this
  exact this⟩
 have q1 : ∀ w : World, (binOp .eql 32 (.agg #[.int .u32 1056964608, .int .u32 1056964607, .bool true]) (.agg #[.int .u32 1056964608, .int .u32 1056964607, .bool true])).run Try.prog w = .ok (.bool true) w := fun w => eql32 ⟨1056964608, 1056964607, true⟩ ⟨1056964608, 1056964607, true⟩ w
 go_enter Try.func10, Try.ntmps10
 go_wp2_with (first | (go_at_call 36; (with_reducible refine (made_calls _).mono ?_); rintro e w1 ⟨g, B, cb, rfl, hC, hb⟩; have C_1 := Aside0.mk hC; have B_1 := Aside0.mk hb; clear hC hb) | (go_at_call 17; (with_reducible refine (HA0.out _ g B cb C_1.out).mono ?_); rintro e w2 ⟨rfl, hb⟩; have B_2 := Aside0.mk (below_step B_1.out hb); have C_2 := Aside0.mk (CvB.below C_1.out hb); clear C_1; clear hb) | (go_at_call 17; (with_reducible refine (HA1.out _ g B cb C_2.out).mono ?_); rintro e w3 ⟨rfl, hb⟩; have B_3 := Aside0.mk (below_step B_2.out hb); have C_3 := Aside0.mk (CvB.below C_2.out hb); clear C_2; clear hb) | (go_at_call 17; (with_reducible refine (HA2.out _ g B cb C_3.out).mono ?_); rintro e w4 ⟨rfl, hb⟩; have B_4 := Aside0.mk (below_step B_3.out hb); have C_4 := Aside0.mk (CvB.below C_3.out hb); clear C_3; clear hb) | (go_at_call 17; (with_reducible refine (HA3.out _ g B cb C_4.out).mono ?_); rintro e w5 ⟨rfl, hb⟩; have B_5 := Aside0.mk (below_step B_4.out hb); have C_5 := Aside0.mk (CvB.below C_4.out hb); clear C_4; clear hb) | (go_at_call 13; (with_reducible refine (HL0.out _ g B cb C_5.out).mono ?_); rintro e w6 ⟨rfl, hb⟩; have B_6 := Aside0.mk (below_step B_5.out hb); have C_6 := Aside0.mk (CvB.below C_5.out hb); clear C_5; clear hb) | ((with_reducible refine gate_dst (N := 2) rfl ?_); refine box_event ?hg (N := 2) ?hd (cs := #[.int .u32 0, .int .u32 0, .bool false]) (t := 32) ?hr ?_; (case hd => rfl); (case hg => rfl); (case hr => first | (go_simp; done) | (go_simp; rfl)); intro gp hg_ w7 hm_ hb_; have P_0 := Aside0.mk (C_6.out); have P_B := Aside0.mk (hb_); have P_G := Aside0.mk (show w6.heap.size ≤ gp by rw [hg_]; exact Nat.le_refl _); have GP := Aside0.mk (show w.heap.size ≤ gp by rw [hg_]; exact B_6.out.size); have B_7 := Aside0.mk (below_step B_6.out hb_); have C_7 := Aside0.mk (CvB.below C_6.out hb_); clear C_6; have P_7 := Aside0.mk (hm_); clear hm_ hb_ hg_) | ((with_reducible refine gate_store (p := 2) rfl ?_); refine store_event rfl rfl rfl gp #[.int .u32 1056964608, .int .u32 1056964607, .bool true] _ 32 rfl rfl P_7.out size32 rfl (by simp [Value.oneCell']) ?_; intro w8 hm_ hst_ hbl_; have B_8 := Aside0.mk (B_7.out.trans (hbl_ _ GP.out)); have P_8 := Aside0.mk (hm_); have C_8 := Aside0.mk (P_0.out.below ((P_B.out.trans (hbl_ _ P_G.out)))); clear P_7 C_7 hm_ hst_ hbl_) | (go_at_call 13; (with_reducible refine (HL1.out _ g B cb C_8.out).mono ?_); rintro e w9 ⟨rfl, hb⟩; have B_9 := Aside0.mk (below_step B_8.out hb); have P_9 := Aside0.mk (blk_below P_8.out hb); have C_9 := Aside0.mk (CvB.below C_8.out hb); clear P_8 C_8; clear hb) | ((with_reducible refine gate_dst (N := 4) rfl ?_); refine box_event ?hg (N := 4) ?hd (cs := #[.int .u32 0, .int .u32 0, .bool false]) (t := 32) ?hr ?_; (case hd => rfl); (case hg => rfl); (case hr => first | (go_simp; done) | (go_simp; rfl)); intro go_ hg_ w10 hm_ hb_; have O_0 := Aside0.mk (C_9.out); have O_B := Aside0.mk (hb_); have O_G := Aside0.mk (show w9.heap.size ≤ go_ by rw [hg_]; exact Nat.le_refl _); have NEPO := Aside0.mk (show gp ≠ go_ by rw [hg_]; have := blk_lt P_9.out; omega); have GO := Aside0.mk (show w.heap.size ≤ go_ by rw [hg_]; exact B_9.out.size); have B_10 := Aside0.mk (below_step B_9.out hb_); have P_10 := Aside0.mk (blk_below P_9.out hb_); have C_10 := Aside0.mk (CvB.below C_9.out hb_); clear P_9 C_9; have O_10 := Aside0.mk (hm_); clear hm_ hb_ hg_) | ((with_reducible refine gate_store (p := 4) rfl ?_); refine store_event rfl rfl rfl go_ #[.int .u32 0, .int .u32 0, .bool false] _ 32 rfl rfl O_10.out size32 rfl (by simp [Value.oneCell']) ?_; intro w11 hm_ hst_ hbl_; have B_11 := Aside0.mk (B_10.out.trans (hbl_ _ GO.out)); have P_11 := Aside0.mk ((hst_ gp NEPO.out).trans P_10.out); have O_11 := Aside0.mk (hm_); have C_11 := Aside0.mk (O_0.out.below ((O_B.out.trans (hbl_ _ O_G.out)))); clear P_10 O_10 C_10 hm_ hst_ hbl_) | ((with_reducible refine gate_dst (N := 42) rfl ?_); refine loadg32 rfl ?hw gp _ _ _ rfl P_11.out ?_; (case hw => rfl)) | ((with_reducible refine gate_dst (N := 48) rfl ?_); refine loadg32 rfl ?hw gp _ _ _ rfl P_11.out ?_; (case hw => rfl)) | (go_at_call 14; (with_reducible refine (HC0.out _ g B cb C_11.out).mono ?_); rintro e w12 ⟨rfl, hb⟩; have B_12 := Aside0.mk (below_step B_11.out hb); have P_12 := Aside0.mk (blk_below P_11.out hb); have O_12 := Aside0.mk (blk_below O_11.out hb); have C_12 := Aside0.mk (CvB.below C_11.out hb); clear P_11 O_11 C_11; clear hb))
 go_ret
 exact ⟨rfl, B_12.out⟩
end Go.Proofs.Ytkicfaboibfbpaa.A
end
section
set_option linter.unusedVariables false
set_option linter.unusedSimpArgs false
namespace Go.Proofs.Ytkicfaboibfbpaa.A
open Go.RowKit Go.Proofs.YtkicfaboibfbpaaW.PrintWords Go.Proofs.YtkicfaboibfbpaaW.PrintLast Go.Proofs.YtkicfaboibfbpaaW.PrintMore Go.Proofs.Ytkicfaboibfbpaa.PCurveAts
def nat (k : IntKind) : Kd Nat := Kd.scalar (fun x : Nat => Value.int k x) (fun _ => rfl)
/-- the element at a place (the walk's simp leaves it alone) -/
def gt (xs : List Nat) (i : Nat) : Nat := xs.getD i 0
set_option maxHeartbeats 1000000 in
set_option maxRecDepth 100000 in
theorem C_nat {k : IntKind} {w : World} {A : Option Addr} {n : Nat} {xs : List Nat} (h : (nat k).C w A n xs) (i : Nat) (hi : i < n) : ∃ ad, A = some ad ∧ w.cell? (ad.add i) = some (.int k (gt xs i)) := by
 obtain ⟨ad, c, hA, hl, hK, hc⟩ := Kd.C_get h 0 i (by omega) (by omega)
 refine ⟨ad, hA, ?_⟩
 have hK' : c = [.int k (gt xs i)] := hK
 have := hc 0 _ (by rw [hK']; rfl)
 simpa [nat, Kd.scalar] using this

theorem wf32 {a : Int} (h : (Lit.int .u32 a).wf = true) : ∃ n : Nat, a = n ∧ n < 4294967296 := by
 have : 0 ≤ a ∧ a < 4294967296 := by
  simp only [Lit.wf, Bool.and_eq_true, decide_eq_true_eq, show IntKind.u32.min = 0 from rfl, show IntKind.u32.max = 4294967295 from rfl] at h
  omega
 exact ⟨a.toNat, by omega, by omega⟩
theorem natRow {k : IntKind} {m : Nat} (hm0 : 0 < m) (hk : ∀ a, (Lit.int k a).wf = true → ∃ n : Nat, a = n ∧ n < m) {w : World} {a : Option Addr} {len cap : Nat} {zs : List Int} (h : (a = none ∧ len = 0 ∧ cap = 0 ∧ zs = []) ∨ ∃ x, a = some x ∧ len ≤ cap ∧ cap ≤ maxLen ∧ zs.length = cap ∧ (∀ i, i < zs.length → w.cell? (x.add i) = some (.int k (zs.getD i 0))) ∧ ∀ n ∈ zs, (Lit.int k n).wf = true) :
    ∃ xs : List Nat, len = xs.length ∧ (nat k).C w a xs.length xs ∧ xs.length ≤ cap ∧ ∀ i, gt xs i < m := by
 obtain ⟨l, rfl, hr, hm, hw, hc⟩ := ReadsInt.ofRowC h
 refine ⟨l.map Int.toNat, by simp, ?_, by simpa using hc, ?_⟩
 ·refine Kd.C_of_reads (d := 0) ⟨rfl, by simpa using hr.2.1, fun hp => ?_⟩
  obtain ⟨ad, e, hx⟩ := hr.2.2 (by simpa using hp)
  refine ⟨ad, e, fun j hj => ?_⟩
  have hj' : j < l.length := by simpa using hj
  obtain ⟨n, hn, _⟩ := hk (l.getD j 0) (hw _ (by rw [List.getD_eq_getElem?_getD, List.getElem?_eq_getElem hj']; exact List.getElem_mem hj'))
  rw [hx j hj', hn]
  rw [List.getD_eq_getElem?_getD, List.getElem?_eq_getElem hj'] at hn
  simp only [Option.getD_some] at hn
  simp [List.getElem?_eq_getElem hj', hn]
 ·intro i
  unfold gt
  rw [List.getD_eq_getElem?_getD, List.getElem?_map]
  by_cases hi : i < l.length
  ·obtain ⟨n, hn, hlt⟩ := hk l[i] (hw _ (List.getElem_mem hi))
   rw [List.getElem?_eq_getElem hi, hn]
   simpa using hlt
  ·rw [List.getElem?_eq_none (by omega)]; exact hm0
/-- a list of words in memory -/
def Ws (w : World) (A : Option Addr) (xs : List Nat) : Prop := (nat .u32).C w A xs.length xs
theorem Ws.below {w w' : World} {A : Option Addr} {xs : List Nat} (h : Ws w A xs) (hb : Below w.heap.size w w') : Ws w' A xs := Kd.C_below h hb
theorem Ws.at_ {w : World} {A : Option Addr} {xs : List Nat} (h : Ws w A xs) (i : Nat) (hi : i < xs.length) : ∃ ad, A = some ad ∧ w.cell? (ad.add i) = some (.int .u32 ((gt xs i : Nat) : Int)) := C_nat h i hi
end Go.Proofs.Ytkicfaboibfbpaa.A
end
section
set_option linter.unusedVariables false
set_option linter.unusedSimpArgs false
namespace Go.Proofs.Ytkicfaboibfbpaa.A
open Go.RowKit Go.Proofs.YtkicfaboibfbpaaW.PrintWords Go.Proofs.YtkicfaboibfbpaaW.PrintLast Go.Proofs.YtkicfaboibfbpaaW.PrintMore Go.Proofs.Ytkicfaboibfbpaa.PCurveAts
/-- curves all of own memory -/
def Cvn (w : World) (b : Nat) (gs : List Nat) (ls : List (List (Nat × Nat))) : Prop := gs.length = ls.length ∧ ∀ i, i < gs.length → ∃ A c, NewC w b (gs.getD i 0) A c (ls.getD i [])
theorem Cvn.cvs {w : World} {b : Nat} {gs : List Nat} {ls : List (List (Nat × Nat))} (h : Cvn w b gs ls) : Cvs w gs ls := ⟨h.1, fun i hi => by obtain ⟨A, c, h1⟩ := h.2 i hi; exact ⟨A, c, h1.2.1⟩⟩
theorem Cvn.below {w w1 : World} {b : Nat} {gs : List Nat} {ls : List (List (Nat × Nat))} (h : Cvn w b gs ls) (hb : Below w.heap.size w w1) : Cvn w1 b gs ls := ⟨h.1, fun i hi => by obtain ⟨A, c, h1⟩ := h.2 i hi; exact ⟨A, c, h1.below hb⟩⟩
theorem Cvn.nil (w : World) (b : Nat) : Cvn w b [] [] := ⟨rfl, fun i hi => absurd hi (by simp)⟩
theorem Cvn.snoc {w : World} {b g c : Nat} {A : Option Addr} {gs : List Nat} {ls : List (List (Nat × Nat))} {l : List (Nat × Nat)} (h : Cvn w b gs ls) (h1 : NewC w b g A c l) : Cvn w b (gs ++ [g]) (ls ++ [l]) := by
 refine ⟨by simp [h.1], fun i hi => ?_⟩
 rw [List.length_append] at hi
 rcases Nat.lt_or_ge i gs.length with h2 | h2
 ·rw [List.getD_eq_getElem?_getD, List.getElem?_append_left h2, ← List.getD_eq_getElem?_getD, List.getD_eq_getElem?_getD (l := ls ++ [l]), List.getElem?_append_left (by rw [← h.1]; exact h2), ← List.getD_eq_getElem?_getD]
  exact h.2 i h2
 ·have e : i = gs.length := by simp at hi; omega
  subst e
  rw [List.getD_eq_getElem?_getD, List.getElem?_append_right (Nat.le_refl _), List.getD_eq_getElem?_getD (l := ls ++ [l]), List.getElem?_append_right (by rw [h.1]; exact Nat.le_refl _), Nat.sub_self, h.1, Nat.sub_self]
  exact ⟨A, c, h1⟩
/-- what changes a row of pointers alone leaves the curves -/
theorem NewC.but {w w1 : World} {b g cb r : Nat} {B : Option Addr} {l : List (Nat × Nat)} {cells : Array Value} (h : NewC w b g B cb l) (hr : w.heap[r]? = some (.cells cells 26 (0, 0))) (hm : ∀ k, k < w.heap.size → k ≠ r → w1.heap[k]? = w.heap[k]?) : NewC w1 b g B cb l := by
 obtain ⟨h1, h2, h3⟩ := h
 have hgr : g ≠ r := fun e => by
  have this := h2.1
  rw [e, hr] at this
  injection this with this
  injection this with _ this
  cases this
 have hR : KR w1 b (.slice B l.length cb) l := by
  have h4 := Kd.R_types (Kd.R_bound h3) hr (by decide)
  exact Kd.R_mono (Kd.R_move h4 (fun k hk => hm k hk.1.2.2.1 hk.2)) (fun _ _ => trivial)
 exact ⟨h1, ⟨(hm g (blk_lt h2.1) hgr).trans h2.1, h2.2.1, hR.kn.2.2⟩, hR⟩
theorem Cvn.but {w w1 : World} {b r : Nat} {gs : List Nat} {ls : List (List (Nat × Nat))} {cells : Array Value} (h : Cvn w b gs ls) (hr : w.heap[r]? = some (.cells cells 26 (0, 0))) (hm : ∀ k, k < w.heap.size → k ≠ r → w1.heap[k]? = w.heap[k]?) : Cvn w1 b gs ls :=
 ⟨h.1, fun i hi => by obtain ⟨A, c, h1⟩ := h.2 i hi; exact ⟨A, c, h1.but hr hm⟩⟩
/-- an own row of pointers grows -/
theorem Cvn.grown {w w1 : World} {b b2 : Nat} {v : Value} {gs hs : List Nat} {ls : List (List (Nat × Nat))} (h : Cvn w b gs ls) (hR : pk.R 26 w b2 (fun _ => True) v hs) (hg : w.grownBy w1 v.ownBlock) : Cvn w1 b gs ls := by
 cases hv : v.ownBlock with
 | none => exact h.below ⟨hg.os, hg.tape, hg.output, hg.size, fun i hi => hg.block i hi (by rw [hv]; simp)⟩
 | some r =>
  obtain ⟨cells, hc⟩ := Kd.R_typed hR r hv
  exact h.but hc (fun k hk hne => hg.block k hk (by rw [hv]; exact fun e => hne (by injection e)))
/-- an own row of pointers -/
def PR (w : World) (b : Nat) (v : Value) (gs : List Nat) : Prop := pk.R 26 w b (fun _ => True) v gs
/-- a chain of own memory -/
def ChN (w : World) (b gc : Nat) (B : Option Addr) (cb : Nat) (gs : List Nat) : Prop := b ≤ gc ∧ w.heap[gc]? = some (.cells #[.slice B gs.length cb] 83 (0, 0)) ∧ PR w b (.slice B gs.length cb) gs
theorem ChN.chb {w : World} {b gc cb : Nat} {B : Option Addr} {gs : List Nat} {ls : List (List (Nat × Nat))} (h : ChN w b gc B cb gs) (h2 : Cvs w gs ls) : ChB w gc gs ls := by
 obtain ⟨_, hl, hC⟩ := Kd.R_reads' h.2.2
 exact ⟨⟨B, cb, h.2.1, hl, hC⟩, h2⟩
set_option maxHeartbeats 2000000 in
theorem Clone54_own (A : Option Addr) (c : Nat) (gs : List Nat) (h0 : 0 < gs.length) (h1 : gs.length < 1000) (hc : gs.length ≤ c) (w : World) (hK : pk.C w A gs.length gs) :
    Calls Try.prog 54 #[.slice A gs.length c] w fun e w' => ∃ B cb, e = .returned (.slice B gs.length cb) ∧ Below w.heap.size w w' ∧ PR w' w.heap.size (.slice B gs.length cb) gs := by
 obtain ⟨ad, rfl, _⟩ := pk_at hK 0 h0
 obtain ⟨n, hn⟩ : ∃ n, gs.length = n := ⟨_, rfl⟩
 rw [hn] at hK ⊢
 have hq2 : ∀ w : World, (binOp .eql 61 (.slice (some ad) n c) (.slice none 0 0)).run Try.prog w = .ok (.bool false) w := fun w => Lib.run_eql_slice_nil w _ _ _ _ _ _ _ Try.underlying61
 have HK : Aside0 (pk.C w (some ad) n gs) := ⟨hK⟩
 have H1 : Aside0 (n < 1000) := ⟨by omega⟩
 have HN := Aside0.mk hn
 clear hK h0 h1 hc hn
 go_enter Try.func54, Try.ntmps54
 go_wp2_with (first
  | ((with_reducible refine gate_dst (N := 4) rfl ?_); refine Kd.event_run rfl (v := .bool false) (w1 := w) ?hr ?_; (case hr => first | (go_simp; done) | (go_simp; rfl)))
  | ((with_reducible refine gate_dst (N := 5) rfl ?_); refine Kd.event_run rfl (v := .slice (some ⟨w.heap.size, 0, none⟩) 0 0) (w1 := w.alloc (.cells #[] 26 (0, 0))) ?hr ?_; (case hr => first | (go_simp; done) | (go_simp; rfl)))
  | ((with_reducible refine gate_dst (N := 7) rfl ?_); refine Kd.R_append_row (fun g : Nat => Value.pointer (some ⟨g, 0, none⟩)) (0 : Nat) (h1 := fun _ => rfl) (W := w.alloc (.cells #[] 26 (0, 0))) (w0 := w) w.heap.size rfl (.tmp 5) (.tmp 6) 61 26 (.pointer none) 8 rfl Try.underlying61 info26 rfl (by omega) (.slice (some ⟨w.heap.size, 0, none⟩) 0 0) [] gs (some ad) n c (fun _ => True) rfl rfl (fun _ _ => trivial) (pk_made w) (Kd.C_alloc HK.out _) (below_alloc (Below.refl _ _) _) (below_alloc (Below.refl _ _) _).size (by have := H1.out; simp only [List.length_nil]; omega) ?_; intro v7 w7 hR hB hg hat; rw [List.nil_append] at hR; have R7 : Aside0 (PR w7 w.heap.size v7 gs) := ⟨hR⟩; have B7 := Aside0.mk hB; clear hR hB hg hat))
 go_ret
 have hR := R7.out
 obtain ⟨B, cb, rfl, h5, h6⟩ := Kd.R_reads hR
 have hn := HN.out
 rw [hn] at hR ⊢
 exact ⟨B, cb, rfl, B7.out, hR⟩
set_option maxHeartbeats 2000000 in
theorem Join_own (A : Option Addr) (c : Nat) (gs : List Nat) (h : 1 ≤ gs.length ∧ gs.length ≤ 8) (hc : gs.length ≤ c) (w : World) (hK : pk.C w A gs.length gs) :
    Calls Try.prog 32 #[.slice A gs.length c] w fun e w' => ∃ gc B cb, e = .returned (.tuple #[.pointer (some ⟨gc, 0, none⟩), .int .i64 0]) ∧ ChN w' w.heap.size gc B cb gs ∧ Below w.heap.size w w' := by
 have HC : Aside0 (∀ W, Below w.heap.size w W → Calls Try.prog 54 #[.slice A gs.length c] W fun e w' => ∃ B cb, e = .returned (.slice B gs.length cb) ∧ Below W.heap.size W w' ∧ PR w' W.heap.size (.slice B gs.length cb) gs) := ⟨fun W hb => Clone54_own A c gs (by omega) (by omega) hc W (Kd.C_below hK hb)⟩
 obtain ⟨n, hn⟩ : ∃ n, gs.length = n := ⟨_, rfl⟩
 rw [hn] at HC h ⊢
 have d1 : ((n : Int) == 0) = false := by rw [beq_eq_false_iff_ne]; omega
 have d1' : decide ((n : Int) = 0) = false := decide_eq_false (by omega)
 have d2 : decide ((n : Int) > 8) = false := decide_eq_false (by omega)
 have d3 : (8 < n) = False := eq_false (by omega)
 have d4 : (n = 0) = False := eq_false (by omega)
 have HN := Aside0.mk hn
 clear h hc hK hn
 go_enter Try.func32, Try.ntmps32
 go_wp2_with (first | (go_at_call 54; (with_reducible refine (HC.out _ (Below.refl _ _)).mono ?_); rintro e w5 ⟨B, cb, rfl, hb, hR⟩; have B5 := Aside0.mk hb; have R5 : Aside0 (PR w5 w.heap.size (.slice B n cb) gs) := ⟨hR⟩; clear hb hR) | ((with_reducible refine gate_dst (N := 15) rfl ?_); refine box_event ?hg (N := 15) ?hd (cs := #[.slice B n cb]) (t := 83) ?hr ?_; (case hd => rfl); (case hg => rfl); (case hr => first | (go_simp; done) | (go_simp; rfl)); intro gc hg_ w7 hm_ hb_; have B7 := Aside0.mk (below_step B5.out hb_); have M7 := Aside0.mk (hm_); have GW := Aside0.mk (show w.heap.size ≤ gc by rw [hg_]; exact B5.out.size); have R7 : Aside0 (PR w7 w.heap.size (.slice B n cb) gs) := ⟨Kd.R_below R5.out hb_⟩; clear hm_ hb_ hg_))
 go_ret2
 have hn := HN.out
 exact ⟨gc, B, cb, rfl, ⟨GW.out, by rw [hn]; exact M7.out, by rw [hn]; exact R7.out⟩, B7.out⟩
/-- all of them may be -/
def vall (ls : List (List (Nat × Nat))) : Bool := ls.all fun l => decide (chk l = 0)
def mayB (ls : List (List (Nat × Nat))) : Bool := vall ls && (decide (1 ≤ ls.length) && decide (ls.length ≤ 8))
theorem vall_of {ls : List (List (Nat × Nat))} (h : ∀ i, i < ls.length → chk (ls.getD i []) = 0) : vall ls = true := by
 unfold vall
 rw [List.all_eq_true]
 intro l hl
 obtain ⟨i, hi, rfl⟩ := List.mem_iff_getElem.mp hl
 have := h i hi
 rw [List.getD_eq_getElem?_getD, List.getElem?_eq_getElem hi] at this
 exact decide_eq_true this
theorem vall_not {ls : List (List (Nat × Nat))} {i : Nat} (hi : i < ls.length) (h : chk (ls.getD i []) ≠ 0) : vall ls = false := by
 cases h2 : vall ls
 ·rfl
 ·unfold vall at h2
  rw [List.all_eq_true] at h2
  exact absurd (of_decide_eq_true (h2 _ (getD_mem hi []))) h
theorem vall_val {ls : List (List (Nat × Nat))} (hk : ∀ l ∈ ls, kok l) (h : vall ls = true) : ∀ l ∈ ls, Val l := by
 unfold vall at h
 rw [List.all_eq_true] at h
 exact fun l hl => chk_val (hk l hl) (of_decide_eq_true (h l hl))
theorem KsA.most {w : World} {A : Option Addr} {ls : List (List (Nat × Nat))} (h : KsA w A ls) : ls.length ≤ 9223372036854775807 := by
 obtain ⟨hs, h1, h2, _⟩ := h
 rw [← h1]; exact h2.2.1
set_option maxHeartbeats 4000000 in
theorem may_calls (A : Option Addr) (c : Nat) (ls : List (List (Nat × Nat))) (hk : ∀ l ∈ ls, kok l) (w : World) (hK : KsA w A ls) :
    Calls Try.prog 19 #[.slice A ls.length c] w fun e w' => e = .returned (.bool (mayB ls)) ∧ Below w.heap.size w w' := by
 have hm := hK.most
 obtain ⟨n, hn⟩ : ∃ n, ls.length = n := ⟨_, rfl⟩
 have HM : Aside0 (mayB ls = (vall ls && (decide (1 ≤ n) && decide (n ≤ 8)))) := ⟨by unfold mayB; rw [hn]⟩
 rw [hn] at hm ⊢
 have HK : Aside0 (KsA w A ls) := ⟨hK⟩
 have HKO := Aside0.mk hk
 have HN := Aside0.mk hn
 have H8 := Aside0.mk hm
 clear hK hk hn hm
 go_enter Try.func19, Try.ntmps19
 go_wp2
 go_loopg [3] n (fun kx s3 wr => ∃ i : Nat, s3 = .int .i64 (i : Int) ∧ i ≤ n ∧ n - i ≤ kx ∧ Aside0 (Below w.heap.size w wr) ∧ Aside0 (∀ j, j < i → chk (ls.getD j []) = 0))
 case atStart => exact ⟨0, rfl, Nat.zero_le _, by omega, ⟨Below.refl _ _⟩, ⟨fun j hj => absurd hj (by omega)⟩⟩
 case round =>
  obtain ⟨i, rfl, i1, i2, HB, I⟩ := hrel
  have h8 := H8.out
  by_cases hin : i < n
  ·have hil : i < ls.length := by have := HN.out; omega
   have e1i : decide ((0 : Int) ≤ (i : Int)) = true := decide_eq_true (by omega)
   have e2i : decide ((i : Int) < (n : Int)) = true := decide_eq_true (by omega)
   have e5i : ((0 : Int) ≤ (i : Int)) = True := eq_true (by omega)
   have e6i : ((i : Int) < (n : Int)) = True := eq_true (by omega)
   have e7i : (i < n) = True := eq_true (by omega)
   have wi : IntKind.i64.wrap ((i : Int) + 1) = ((i + 1 : Nat) : Int) := by rw [show IntKind.i64.wrap ((i : Int) + 1) = wrap64 ((i : Int) + 1) from i64_w _, w64 (by omega) (by omega)]; omega
   obtain ⟨ad, Ai, ci, rfl, hp, hci, hKi⟩ := (HK.out.below HB.out).at_ i hil
   have HKL := Aside0.mk (HKO.out _ (getD_mem hil []))
   have HC := Aside0.mk hci
   obtain ⟨li, hli⟩ : ∃ u, ls.getD i [] = u := ⟨_, rfl⟩
   rw [hli] at hp HKL HC hKi
   have HKI : Aside0 (Kn wr Ai li) := ⟨hKi⟩
   have HIN := Aside0.mk hin
   have HLI := Aside0.mk hli
   have HIL := Aside0.mk hil
   obtain ⟨m, hm⟩ : ∃ m, li.length = m := ⟨_, rfl⟩
   rw [hm] at hp HC
   have HMM := Aside0.mk hm
   by_cases h64 : 64 < m
   ·have d1 : decide ((m : Int) > 64) = true := decide_eq_true (by omega)
    have d2 : (64 < m) = True := eq_true h64
    have HF : Aside0 (mayB ls = false) := ⟨by rw [HM.out, vall_not hil (by rw [hli, chk_40 (.inr (by omega))]; decide)]; rfl⟩
    clear h8 hin hil hKi hci hli hm h64
    go_wp2
    go_ret
    exact ⟨by rw [HF.out]; rfl, HB.out⟩
   ·have d1 : decide ((m : Int) > 64) = false := decide_eq_false (by omega)
    have d2 : (64 < m) = False := eq_false h64
    have HCH : Aside0 (∀ W, Kn W Ai li → Calls Try.prog 30 #[.slice Ai m ci] W fun e w' => e = .returned (.int .i64 ((chk li : Nat) : Int)) ∧ Drawn0 W w') := ⟨fun W h => by rw [← hm]; exact rCheck_calls li HKL.out (by omega) Ai ci (by rw [hm]; exact HC.out) W h⟩
    obtain ⟨ek, hek⟩ : ∃ k, chk li = k := ⟨_, rfl⟩
    rw [hek] at HCH
    by_cases h0 : ek = 0
    ·subst h0
     have HE := Aside0.mk hek
     have t1 : (((0 : Nat) : Int) != 0) = false := by decide
     clear h8 hin hil hKi hci hli hm h64 hek
     go_wp2_with (go_at_call 30; (with_reducible refine (HCH.out _ HKI.out).mono ?_); rintro e w5 ⟨rfl, hd⟩; have B5 := Aside0.mk (below_step HB.out hd.below); clear hd)
     go_roundg (n - (i + 1))
     case measure => have := HIN.out; omega
     case rel => exact ⟨i + 1, by first | rfl | (congr 1; omega), HIN.out, by omega, B5, ⟨fun j hj => by
      rcases Nat.lt_or_eq_of_le (Nat.lt_succ_iff.mp hj) with h | h
      ·exact I.out j h
      ·rw [h, HLI.out]; exact HE.out⟩⟩
    ·have t1 : ((ek : Int) != 0) = true := by rw [bne_iff_ne]; omega
     have t2 : decide ((ek : Int) = 0) = false := decide_eq_false (by omega)
     have t3 : (ek = 0) = False := eq_false h0
     have HF : Aside0 (mayB ls = false) := ⟨by rw [HM.out, vall_not hil (by rw [hli, hek]; exact h0)]; rfl⟩
     clear h8 hin hil hKi hci hli hm h64 hek h0
     go_wp2_with (go_at_call 30; (with_reducible refine (HCH.out _ HKI.out).mono ?_); rintro e w5 ⟨rfl, hd⟩; have B5 := Aside0.mk (below_step HB.out hd.below); clear hd)
     go_ret
     exact ⟨by rw [HF.out]; rfl, B5.out⟩
  ·obtain rfl : i = n := by omega
   have dd : decide ((i : Int) < (i : Int)) = false := decide_eq_false (by omega)
   have HV : Aside0 (mayB ls = (decide (1 ≤ i) && decide (i ≤ 8))) := ⟨by rw [HM.out, vall_of (fun j hj => I.out j (by have := HN.out; omega)), Bool.true_and]⟩
   clear hin h8
   by_cases a : 1 ≤ i
   ·by_cases b : i ≤ 8
    ·have e1 : decide ((i : Int) ≥ 1) = true := decide_eq_true (by omega)
     have e2 : decide ((i : Int) ≤ 8) = true := decide_eq_true (by omega)
     have e3 : (1 ≤ i) = True := eq_true a
     have e4 : (i ≤ 8) = True := eq_true b
     have e5 : decide ((1 : Int) ≤ (i : Int)) = true := decide_eq_true (by omega)
     have HF : Aside0 (mayB ls = true) := ⟨by rw [HV.out, decide_eq_true a, decide_eq_true b]; rfl⟩
     clear a b
     go_wp2
     go_ret
     exact ⟨by rw [HF.out]; rfl, HB.out⟩
    ·have e1 : decide ((i : Int) ≥ 1) = true := decide_eq_true (by omega)
     have e2 : decide ((i : Int) ≤ 8) = false := decide_eq_false (by omega)
     have e3 : (1 ≤ i) = True := eq_true a
     have e4 : (i ≤ 8) = False := eq_false b
     have e5 : decide ((1 : Int) ≤ (i : Int)) = true := decide_eq_true (by omega)
     have HF : Aside0 (mayB ls = false) := ⟨by rw [HV.out, decide_eq_true a, decide_eq_false b]; rfl⟩
     clear a b
     go_wp2
     go_ret
     exact ⟨by rw [HF.out]; rfl, HB.out⟩
   ·have e1 : decide ((i : Int) ≥ 1) = false := decide_eq_false (by omega)
    have e3 : (1 ≤ i) = False := eq_false a
    have e5 : decide ((1 : Int) ≤ (i : Int)) = false := decide_eq_false (by omega)
    have HF : Aside0 (mayB ls = false) := ⟨by rw [HV.out, decide_eq_false a]; rfl⟩
    clear a
    go_wp2
    go_ret
    exact ⟨by rw [HF.out]; rfl, HB.out⟩
end Go.Proofs.Ytkicfaboibfbpaa.A
end
section
set_option linter.unusedVariables false
set_option linter.unusedSimpArgs false
namespace Go.Proofs.Ytkicfaboibfbpaa.A
open Go.RowKit Go.Proofs.YtkicfaboibfbpaaW.PrintWords Go.Proofs.YtkicfaboibfbpaaW.PrintLast Go.Proofs.YtkicfaboibfbpaaW.PrintMore Go.Proofs.Ytkicfaboibfbpaa.PCurveAts
theorem NewC.lower {w : World} {b b' g cb : Nat} {B : Option Addr} {l : List (Nat × Nat)} (h : NewC w b g B cb l) (hb : b' ≤ b) : NewC w b' g B cb l := ⟨Nat.le_trans hb h.1, h.2.1, h.2.2.lower hb⟩
theorem PR.as {w : World} {b : Nat} {v : Value} {gs : List Nat} (h : PR w b v gs) : ∃ A n c, v = .slice A n c := by
 obtain ⟨A, c, e⟩ := Kd.R_slice h
 exact ⟨A, _, c, e⟩
theorem PR.len {w : World} {b n c : Nat} {A : Option Addr} {gs : List Nat} (h : PR w b (.slice A n c) gs) : n = gs.length ∧ n ≤ c ∧ pk.C w A gs.length gs := Kd.R_reads' h
theorem take_snoc {α : Type} {ls : List α} {i : Nat} {d : α} (h : i < ls.length) : ls.take (i + 1) = ls.take i ++ [ls.getD i d] := by
 rw [List.take_add_one, List.getD_eq_getElem?_getD, List.getElem?_eq_getElem h]; rfl
theorem fin_F32 {s : Nat} {z : Int} (h : F32 s z) : fin s = true := by
 have h1 := h.ok
 have hs := h1.2
 obtain ⟨a, r, rfl, hr, _⟩ := h
 have hp := pz_word a (r := r) (by have := Ieee.Format.infRung_lt Ieee.single; omega)
 have e : Ieee.single.infRung = 2139095040 := by decide
 rw [e] at hr
 unfold fin
 refine decide_eq_true (fun h5 => ?_)
 unfold pz at hp
 unfold sg at hp
 cases a
 ·simp only [Bool.false_eq_true, if_false] at hp
  split at hp <;> omega
 ·simp only [if_true] at hp
  split at hp <;> omega
theorem val_chk {l : List (Nat × Nat)} (h : Val l) : chk l = 0 := by
 have two := h.two
 have most := h.most
 refine chk_0 (by omega) (fun i hi => ?_) h.ris
 obtain ⟨⟨y, h1⟩, ⟨z, h2⟩⟩ := h.fin i hi
 exact ⟨fin_F32 h1, fin_F32 h2⟩
set_option maxHeartbeats 8000000 in
theorem some_calls (A : Option Addr) (c : Nat) (ls : List (List (Nat × Nat))) (hv : ∀ l ∈ ls, Val l) (h18 : 1 ≤ ls.length ∧ ls.length ≤ 8) (w : World) (hK : KsA w A ls) :
    Calls Try.prog 20 #[.slice A ls.length c] w fun e w' => ∃ gc gs, e = .returned (.pointer (some ⟨gc, 0, none⟩)) ∧ ChB w' gc gs ls ∧ Below w.heap.size w w' := by
 obtain ⟨n, hn⟩ : ∃ n, ls.length = n := ⟨_, rfl⟩
 rw [hn] at h18 ⊢
 have HK : Aside0 (KsA w A ls) := ⟨hK⟩
 have HVV := Aside0.mk hv
 have HN := Aside0.mk hn
 have H8 := Aside0.mk h18
 clear hK hv hn h18
 go_enter Try.func20, Try.ntmps20
 go_wp2
 go_loopg [3, 4] n (fun kx s3 s4 wr => ∃ (i : Nat) (Av : Option Addr) (nv cv : Nat) (gs : List Nat), s4 = .int .i64 (i : Int) ∧ s3 = .slice Av nv cv ∧ i ≤ n ∧ n - i ≤ kx ∧ Aside0 (Below w.heap.size w wr) ∧ Aside0 (PR wr w.heap.size (.slice Av nv cv) gs) ∧ Aside0 (Cvn wr w.heap.size gs (ls.take i)) ∧ Aside0 (gs.length = i))
 case atStart => exact ⟨0, none, 0, 0, [], rfl, rfl, Nat.zero_le _, by omega, ⟨Below.refl _ _⟩, ⟨Kd.R_nil _ _ _ _ _⟩, ⟨Cvn.nil _ _⟩, ⟨rfl⟩⟩
 case round =>
  obtain ⟨i, Av, nv, cv, gs, rfl, rfl, i1, i2, HB, HV, HN2, HGL⟩ := hrel
  have h8 := H8.out
  by_cases hin : i < n
  ·have hil : i < ls.length := by have := HN.out; omega
   have e1i : decide ((0 : Int) ≤ (i : Int)) = true := decide_eq_true (by omega)
   have e2i : decide ((i : Int) < (n : Int)) = true := decide_eq_true (by omega)
   have e5i : ((0 : Int) ≤ (i : Int)) = True := eq_true (by omega)
   have e6i : ((i : Int) < (n : Int)) = True := eq_true (by omega)
   have e7i : (i < n) = True := eq_true (by omega)
   have wi : IntKind.i64.wrap ((i : Int) + 1) = ((i + 1 : Nat) : Int) := by rw [show IntKind.i64.wrap ((i : Int) + 1) = wrap64 ((i : Int) + 1) from i64_w _, w64 (by omega) (by omega)]; omega
   obtain ⟨ad, Ai, ci, rfl, hp, hci, hKi⟩ := (HK.out.below HB.out).at_ i hil
   have HVI := Aside0.mk (HVV.out _ (getD_mem hil []))
   have HC := Aside0.mk hci
   obtain ⟨li, hli⟩ : ∃ u, ls.getD i [] = u := ⟨_, rfl⟩
   rw [hli] at hp HVI HC hKi
   have HKC0 : k43.C wr Ai li.length (li.map kI) := hKi
   have h64 := HVI.out.most
   have HIN := Aside0.mk hin
   have HLI := Aside0.mk hli
   have HIL := Aside0.mk hil
   have HNEW : Aside0 (∀ A c w, Kn w A li → li.length ≤ c → Calls Try.prog 31 #[.slice A li.length c] w fun e w' => ∃ g B cb, e = .returned (.tuple #[.pointer (some ⟨g, 0, none⟩), .int .i64 0]) ∧ NewC w' w.heap.size g B cb li ∧ Below w.heap.size w w') := ⟨fun A c w h1 h2 => New_ok HVI.out.ok (by omega) h2 (val_chk HVI.out) w h1⟩
   obtain ⟨m, hm⟩ : ∃ m, li.length = m := ⟨_, rfl⟩
   rw [hm] at hp HC HKC0 HNEW h64
   have HKC := Aside0.mk HKC0
   have HMM := Aside0.mk hm
   have HLE : Aside0 ((([] : List S43).length + m) * 8 ≤ 140737488355328) := ⟨by simp only [List.length_nil]; omega⟩
   have HLG : Aside0 ((gs.length + 1) * 8 ≤ 140737488355328) := ⟨by have := HGL.out; omega⟩
   clear h8 hin hil hKi hci hli hm h64 HKC0
   go_wp2_with (first | ((with_reducible refine gate_dst (N := 20) rfl ?_); refine Kd.R_append_rows k43 (W := wr) (Rr := k43.K wr) (w0 := wr) wr.heap.size rfl (.const (.slice none 0 0)) (.tmp 19) 23 43 (.agg #[.int .u32 0, .int .u32 0]) 8 rfl Try.underlying23 info43 rfl (by decide) (by decide) (.slice none 0 0) [] (li.map kI) Ai m ci (fun _ => True) (fun _ => False) rfl rfl (KR.nil wr _) HKC.out (fun x cs h => k43_any _ _ _ _ _ _ h) (fun _ h => h.elim) (fun _ _ => trivial) (Below.refl _ _) (Nat.le_refl _) HLE.out ?_; intro v1 w1 hR hB hg hat; rw [List.nil_append] at hR; have R1 : Aside0 (KR w1 wr.heap.size v1 li) := ⟨hR⟩; have B1 := Aside0.mk hB; obtain ⟨A1, n1, c1, rfl, hn1⟩ := R1.out.as; obtain rfl : m = n1 := (hn1.trans HMM.out).symm; have R1K : Aside0 (Kn w1 A1 li) := ⟨R1.out.kn.2.2⟩; have R1C : Aside0 (m ≤ c1) := ⟨R1.out.kn.2.1⟩; have V1 : Aside0 (PR w1 w.heap.size (.slice Av nv cv) gs) := ⟨Kd.R_below HV.out hB⟩; have N1 := Aside0.mk (HN2.out.below hB); clear hR hB hg hat hn1) | (go_at_call 31; (with_reducible refine (HNEW.out A1 c1 w1 R1K.out R1C.out).mono ?_); rintro e w2 ⟨g, B, cb, rfl, hC, hb⟩; have C2 : Aside0 (NewC w2 w.heap.size g B cb li) := ⟨NewC.lower hC (below_step HB.out B1.out).size⟩; have B2 := Aside0.mk (below_step B1.out hb); have V2 : Aside0 (PR w2 w.heap.size (.slice Av nv cv) gs) := ⟨Kd.R_below V1.out hb⟩; have N2 := Aside0.mk (N1.out.below hb); clear hC hb) | ((with_reducible refine gate_builtin (b := .append) (xs := #[.tmp 30, .tmp 32]) rfl ?_); at_builtin; refine Kd.R_append pk (w0 := w) w.heap.size rfl (.tmp 30) (.tmp 32) 61 26 (.pointer none) 8 rfl Try.underlying61 info26 rfl (by decide) (by decide) (.slice Av nv cv) gs g [.pointer (some ⟨g, 0, none⟩)] (fun _ => True) (fun _ => False) rfl rfl rfl (fun _ h => h.elim) (fun _ _ => trivial) V2.out (below_step HB.out B2.out) (below_step HB.out B2.out).size HLG.out ?_; intro v9 w9 hR hB hg hat; have V9 : Aside0 (PR w9 w.heap.size v9 (gs ++ [g])) := ⟨hR⟩; have B9 := Aside0.mk hB; have N9 : Aside0 (Cvn w9 w.heap.size (gs ++ [g]) (ls.take (i + 1))) := ⟨by rw [take_snoc HIL.out, HLI.out]; exact (N2.out.snoc C2.out).grown V2.out hg⟩; clear hR hB hg hat; obtain ⟨A9, n9, c9, rfl⟩ := PR.as V9.out))
   go_roundg (n - (i + 1))
   case measure => have := HIN.out; omega
   case rel => exact ⟨i + 1, A9, n9, c9, gs ++ [g], by first | rfl | (congr 1; omega), rfl, HIN.out, by omega, B9, V9, N9, ⟨by have := HGL.out; simp; omega⟩⟩
  ·obtain rfl : i = n := by omega
   have dd : decide ((i : Int) < (i : Int)) = false := decide_eq_false (by omega)
   have hC := HN2.out
   rw [List.take_of_length_le (by have := HN.out; omega)] at hC
   have HCV : Aside0 (Cvn wr w.heap.size gs ls) := ⟨hC⟩
   obtain ⟨p1, p2, p3⟩ := HV.out.len
   have hg := HGL.out
   obtain rfl : nv = i := by omega
   have HJO : Aside0 (Calls Try.prog 32 #[.slice Av nv cv] wr fun e w' => ∃ gc B cb, e = .returned (.tuple #[.pointer (some ⟨gc, 0, none⟩), .int .i64 0]) ∧ ChN w' wr.heap.size gc B cb gs ∧ Below wr.heap.size wr w') := ⟨by
    have := Join_own Av cv gs (by omega) (by omega) wr p3
    rwa [← p1] at this⟩
   clear hC p1 p2 p3 hg hin h8
   go_wp2_with (go_at_call 32; refine HJO.out.mono ?_; rintro e w5 ⟨gc, B, cb, rfl, hC, hb⟩; have C5 := Aside0.mk hC; have B5 := Aside0.mk hb; clear hC hb)
   go_ret
   exact ⟨gc, gs, rfl, C5.out.chb (HCV.out.below B5.out).cvs, below_step HB.out B5.out⟩
end Go.Proofs.Ytkicfaboibfbpaa.A
end
section
set_option linter.unusedVariables false
set_option linter.unusedSectionVars false
namespace Go.Proofs.Ytkicfaboibfbpaa.A
section
variable {a b : Nat} (ha : a < 4294967296) (hb : b < 4294967296) (na : isnan a = false) (nb : isnan b = false)
include ha hb na nb
theorem ord_nn : FloatKind.f32.format.order a b = some (compare (pz a) (pz b)) := by
 have e : FloatKind.f32.format.order a b = Ieee.single.order a b := rfl
 rw [e, ord_s ha hb, if_neg (by rw [na, nb]; decide)]
theorem leq_f (h : pz b < pz a) : (FloatKind.f32.format.order a b == some .lt || FloatKind.f32.format.order a b == some .eq) = false ∧ (FloatKind.f32.format.order a b = some .lt ∨ FloatKind.f32.format.order a b = some .eq) = False := by
 rw [ord_nn ha hb na nb, cmp_if, if_neg (by omega), if_neg (by omega)]
 exact ⟨rfl, eq_false (fun h => by rcases h with h | h <;> cases h)⟩
theorem geq_t (h : pz b ≤ pz a) : (FloatKind.f32.format.order a b == some .gt || FloatKind.f32.format.order a b == some .eq) = true ∧ (FloatKind.f32.format.order a b = some .gt ∨ FloatKind.f32.format.order a b = some .eq) = True := by
 rw [ord_nn ha hb na nb, cmp_if]
 by_cases h1 : pz b < pz a
 ·rw [if_neg (by omega), if_neg (by omega)]; exact ⟨rfl, eq_true (.inl rfl)⟩
 ·rw [if_neg (by omega), if_pos (by omega)]; exact ⟨rfl, eq_true (.inr rfl)⟩
theorem lss_t (h : pz a < pz b) : (FloatKind.f32.format.order a b == some .lt) = true ∧ (FloatKind.f32.format.order a b = some .lt) = True := by
 rw [ord_nn ha hb na nb, cmp_if, if_pos h]; exact ⟨rfl, eq_true rfl⟩
end
theorem ord_nan {a b : Nat} (ha : a < 4294967296) (hb : b < 4294967296) (h : isnan a = true ∨ isnan b = true) : FloatKind.f32.format.order a b = none := by
 have e : FloatKind.f32.format.order a b = Ieee.single.order a b := rfl
 rw [e, ord_s ha hb, if_pos h]
theorem leq_nan {a b : Nat} (ha : a < 4294967296) (hb : b < 4294967296) (h : isnan a = true ∨ isnan b = true) : (FloatKind.f32.format.order a b == some .lt || FloatKind.f32.format.order a b == some .eq) = false ∧ (FloatKind.f32.format.order a b = some .lt ∨ FloatKind.f32.format.order a b = some .eq) = False := by
 rw [ord_nan ha hb h]; exact ⟨rfl, eq_false (fun h => by rcases h with h | h <;> cases h)⟩
end Go.Proofs.Ytkicfaboibfbpaa.A
end
section
set_option linter.unusedVariables false
set_option linter.unusedSimpArgs false
namespace Go.Proofs.Ytkicfaboibfbpaa.A
open Go.RowKit Go.Proofs.YtkicfaboibfbpaaW.PrintWords Go.Proofs.YtkicfaboibfbpaaW.PrintLast Go.Proofs.YtkicfaboibfbpaaW.PrintMore Go.Proofs.Ytkicfaboibfbpaa.PCurveAts
section
variable {P : Program} {ops : Array Oper} {Q : Exit → Act → World → Prop} {o : Oper} {rest : List Oper} {a : Act}
/-- an operation that leaves the world, guarded or not -/
theorem evg {W : World} (hw : Region.wanted o (yielded ops a.tmps) = true) (v : Value) (hrun : (execOp a.eval o).run P W = .ok (.value v) W) (h : wpList P ops Q rest (a.put o.dst v) W) : wpList P ops Q (o :: rest) a W := by
 refine wpList_step fun K hK => ?_
 rw [if_pos hw]
 unfold Oper.wp
 rw [hrun]
 exact hK _ _ h
end
end Go.Proofs.Ytkicfaboibfbpaa.A
end
section
set_option linter.unusedVariables false
set_option linter.unusedSectionVars false
namespace Go.Proofs.Ytkicfaboibfbpaa.A
theorem lt_irr' (a : Nat) : lt a a = false := by
 unfold lt
 rw [decide_eq_false (by omega), Bool.and_false]
section
variable {F : Nat → Nat} (hF : Ris F) {lo hi : Nat} (h1 : lo < 4294967296) (h2 : hi < 4294967296) (n1 : isnan lo = false) (n2 : isnan hi = false) (hk : kf lo ≤ kf hi)
include hF h1 h2 n1 n2 hk
theorem meets_no {q : Nat} (hq : q < 4294967296) (h : noY F hi q = true) : (FloatKind.f32.format.order q (F hi) == some .lt || FloatKind.f32.format.order q (F hi) == some .eq) = false ∧ (FloatKind.f32.format.order q (F hi) = some .lt ∨ FloatKind.f32.format.order q (F hi) = some .eq) = False := by
 cases nq : isnan q
 ·unfold noY at h
  rw [nq, Bool.false_or, nn_lt (hF.nn _ h2 n2) nq] at h
  exact leq_f hq (hF.word _ h2) nq (hF.nn _ h2 n2) (of_decide_eq_true h)
 ·exact leq_nan hq (hF.word _ h2) (.inl nq)
theorem meets_ok {q : Nat} (hq : q < 4294967296) (h : noY F hi q = false) : isnan q = false ∧ (lst F lo hi q).X < 4294967296 ∧ isnan (F (lst F lo hi q).X) = false ∧ pz q ≤ pz (F (lst F lo hi q).X) ∧
    ((lst F lo hi q).H = true → (lst F lo hi q).B < 4294967296 ∧ isnan (F (lst F lo hi q).B) = false ∧ pz (F (lst F lo hi q).B) < pz q) ∧ ((lst F lo hi q).H = false → (lst F lo hi q).X = lo) := by
 have nq : isnan q = false := by
  unfold noY at h
  rw [Bool.or_eq_false_iff] at h
  exact h.1
 have hw := kf_word h2
 obtain ⟨e1, e2, e3, e4⟩ := lst_X hF h1 h2 n1 n2 hk q h
 have hs := fs_srch (kf hi - kf lo) (fun i => !lt (F (fk (kf lo + i))) q)
 have hsN : Srch (fun i => !lt (F (fk (kf lo + i))) q) (kf hi - kf lo) (lstN F lo hi q) := hs
 have hpr : (!lt (F (fk (kf lo + lstN F lo hi q))) q) = true := by
  rcases hsN.2.2 with e | e
  ·have h' := h
   unfold noY at h'
   rw [nq, Bool.false_or] at h'
   rw [e, show kf lo + (kf hi - kf lo) = kf hi by omega, fk_kf' h2, h']; rfl
  ·exact e
 have nX := nn_between h1 h2 e4 n1 n2 (by omega) (by omega)
 have nFX := hF.nn _ e4 nX
 refine ⟨nq, e4, nFX, ?_, fun hH => ?_, fun hH => ?_⟩
 ·rw [e1] at nFX ⊢
  rw [nn_lt nFX nq] at hpr
  simp only [Bool.not_eq_true', decide_eq_false_iff_not] at hpr
  omega
 ·by_cases h0 : lstN F lo hi q = 0
  ·rw [lst_0 h h0] at hH; cases hH
  ·rw [lst_n h h0]
   have wB := fk_word (s := kf lo + lstN F lo hi q - 1) (by omega)
   have nB := nn_between h1 h2 wB n1 n2 (by rw [kf_fk' (by omega)]; omega) (by rw [kf_fk' (by omega)]; omega)
   have nFB := hF.nn _ wB nB
   refine ⟨wB, nFB, ?_⟩
   have hl : lt (F (fk (kf lo + lstN F lo hi q - 1))) q = true := by
    rcases hsN.2.1 with e | e
    ·omega
    ·have : kf lo + (lstN F lo hi q - 1) = kf lo + lstN F lo hi q - 1 := by omega
     rw [← this]
     simpa using e
   exact (lt_pz hl).2.2
 ·by_cases h0 : lstN F lo hi q = 0
  ·rw [lst_0 h h0]
  ·rw [lst_n h h0] at hH; cases hH
theorem meets_x {x : Nat} (hx : x < 4294967296) (ka : kf lo ≤ kf x) (kb : kf x ≤ kf hi) : noY F hi (F x) = false ∧ kf (lst F lo hi (F x)).X ≤ kf x := by
 have hw := kf_word h2
 have nx := nn_between h1 h2 hx n1 n2 ka kb
 have nF := hF.nn _ hx nx
 have hm := hF.mono x hi hx h2 nx n2 (pz_kf hx h2 kb)
 have h : noY F hi (F x) = false := by
  unfold noY
  rw [nF, Bool.false_or, nn_lt (hF.nn _ h2 n2) nF]
  exact decide_eq_false (by omega)
 refine ⟨h, ?_⟩
 obtain ⟨e1, e2, e3, e4⟩ := lst_X hF h1 h2 n1 n2 hk (F x) h
 rw [e3]
 have hs : Srch (fun i => !lt (F (fk (kf lo + i))) (F x)) (kf hi - kf lo) (lstN F lo hi (F x)) := fs_srch _ _
 rcases Nat.lt_or_ge (kf x - kf lo) (lstN F lo hi (F x)) with h3 | h3
 ·have hf : (!lt (F (fk (kf lo + (lstN F lo hi (F x) - 1)))) (F x)) = false := by
   rcases hs.2.1 with e | e
   ·omega
   ·exact e
  have ht : (!lt (F (fk (kf lo + (kf x - kf lo)))) (F x)) = true := by
   rw [show kf lo + (kf x - kf lo) = kf x by omega, fk_kf' hx, lt_irr']; rfl
  have := rs_mono hF h1 h2 n1 n2 hk (hF.word x hx) nF (kf x - kf lo) (lstN F lo hi (F x) - 1) (by omega) (by omega) ht
  rw [this] at hf
  cases hf
 ·omega
end
end Go.Proofs.Ytkicfaboibfbpaa.A
end
section
set_option linter.unusedVariables false
set_option linter.unusedSimpArgs false
namespace Go.Proofs.Ytkicfaboibfbpaa.A
open Go.RowKit Go.Proofs.YtkicfaboibfbpaaW.PrintWords Go.Proofs.YtkicfaboibfbpaaW.PrintLast Go.Proofs.YtkicfaboibfbpaaW.PrintMore Go.Proofs.Ytkicfaboibfbpaa.PCurveAts
theorem gtr_t {a b : Nat} (h : b < a) : decide ((a : Int) > (b : Int)) = true ∧ decide ((b : Int) < (a : Int)) = true ∧ (b < a) = True := ⟨decide_eq_true (by omega), decide_eq_true (by omega), eq_true h⟩
theorem gtr_f {a b : Nat} (h : ¬ b < a) : decide ((a : Int) > (b : Int)) = false ∧ decide ((b : Int) < (a : Int)) = false ∧ (b < a) = False := ⟨decide_eq_false (by omega), decide_eq_false (by omega), eq_false h⟩
set_option maxHeartbeats 32000000 in
set_option maxRecDepth 100000 in
theorem curveMeets_main (A1 : Option Addr) (c1 : Nat) (ls : List (List (Nat × Nat))) (A2 : Option Addr) (c2 : Nat) (xs : List Nat) (A3 : Option Addr) (c3 : Nat) (ys : List Nat) (w : World) (hK : KsA w A1 ls) (hc1 : ls.length ≤ c1) (hl : ∀ l ∈ ls, kok l) (hX : Ws w A2 xs) (hc2 : xs.length ≤ c2) (hx : ∀ i, gt xs i < 4294967296) (hY : Ws w A3 ys) (hc3 : ys.length ≤ c3) (hy : ∀ i, gt ys i < 4294967296) (g1 : ¬ 60 < xs.length) (g2 : ¬ 60 < ys.length) (hm : mayB ls = true) :
    Calls Try.prog 8 #[.slice A1 ls.length c1, .slice A2 xs.length c2, .slice A3 ys.length c3] w fun e w' => e = .returned (.bool true) ∧ Below w.heap.size w w' := by
 have hfrom := fun (s : Nat) (w : World) => run_from s w
 have HMAY : Aside0 (∀ W, Below w.heap.size w W → Calls Try.prog 19 #[.slice A1 ls.length c1] W fun e w' => e = .returned (.bool true) ∧ Below W.heap.size W w') := ⟨fun W hb => by
  have := may_calls A1 c1 ls hl W (hK.below hb)
  rwa [hm] at this⟩
 have hm2 := hm
 unfold mayB at hm2
 simp only [Bool.and_eq_true, decide_eq_true_eq] at hm2
 have hv := vall_val hl hm2.1
 have h18 := hm2.2
 have HSO : Aside0 (∀ W, Below w.heap.size w W → Calls Try.prog 20 #[.slice A1 ls.length c1] W fun e w' => ∃ gc gs, e = .returned (.pointer (some ⟨gc, 0, none⟩)) ∧ ChB w' gc gs ls ∧ Below W.heap.size W w') := ⟨fun W hb => some_calls A1 c1 ls hv h18 W (hK.below hb)⟩
 have RF := ris_all ls hv
 have hv0 := hv _ (getD_mem (show 0 < ls.length by omega) [])
 have EN := ends_ok hv0
 obtain ⟨F, hF⟩ : ∃ F, atA ls = F := ⟨_, rfl⟩
 obtain ⟨l0, hl0⟩ : ∃ u, ls.getD 0 [] = u := ⟨_, rfl⟩
 rw [hl0] at hv0 EN
 obtain ⟨lo, hlo⟩ : ∃ u, lo0 l0 = u := ⟨_, rfl⟩
 obtain ⟨hi, hhi⟩ : ∃ u, hi0 l0 = u := ⟨_, rfl⟩
 have HCH : Aside0 (∀ W gc gs (x : Nat), x < 4294967296 → ChB W gc gs ls → Calls Try.prog 22 #[.pointer (some ⟨gc, 0, none⟩), .int .u32 (x : Int)] W fun e w' => e = .returned (.int .u32 ((F x : Nat) : Int)) ∧ Below W.heap.size W w') := ⟨fun W gc gs x hx h => by
  have := ChainAt_calls gc gs ls hv h18.2 h18.1 x hx W h
  rwa [hF] at this⟩
 have HCL : Aside0 (∀ W gc gs (y : Nat), y < 4294967296 → ChB W gc gs ls → Calls Try.prog 27 #[.pointer (some ⟨gc, 0, none⟩), .int .u32 (y : Int)] W fun e w' => e = .returned (.tuple #[.agg #[.int .u32 ((lst F lo hi y).X : Int), .int .u32 ((lst F lo hi y).B : Int), .bool (lst F lo hi y).H], .int .i64 ((lerr F hi y : Nat) : Int)]) ∧ Below W.heap.size W w') := ⟨fun W gc gs y hy h => by
  have := Leasth_calls gc gs ls hv h18.2 h18.1 W h y hy
  rwa [hF, hl0, hlo, hhi] at this⟩
 have HCK : Aside0 (∀ W gc gs (y : Nat) (p : Pf), y < 4294967296 → p.X < 4294967296 → ChB W gc gs ls → Calls Try.prog 28 #[.pointer (some ⟨gc, 0, none⟩), .int .u32 (y : Int), .agg #[.int .u32 (p.X : Int), .int .u32 (p.B : Int), .bool p.H]] W fun e w' => e = .returned (.bool (ckP F lo hi y p)) ∧ Below W.heap.size W w') := ⟨fun W gc gs y p hy hp h => by
  have := Checkh_calls gc gs ls hv h18.2 h18.1 W h y p.X p.B p.H hy hp
  rwa [hF, hl0, hlo, hhi] at this⟩
 rw [hF] at RF
 rw [hlo, hhi] at EN
 have HRF := Aside0.mk RF
 have HEN := Aside0.mk EN
 obtain ⟨p, hp⟩ : ∃ p, l0.length = p + 1 := ⟨l0.length - 1, by have := hv0.two; omega⟩
 have hl64 := hv0.most
 have HLK : Aside0 (∀ W, Below w.heap.size w W → ∃ ad al cl, A1 = some ad ∧ W.cell? ad = some (.slice (some al) l0.length cl) ∧ W.cell? al = some (.int .u32 (lo : Int)) ∧ W.cell? (al.add (p * 2)) = some (.int .u32 (hi : Int))) := ⟨fun W hb => by
  obtain ⟨ad, B, c, e, h1, h2, h3⟩ := (hK.below hb).at_ 0 (by omega)
  rw [hl0] at h1 h2 h3
  rw [Addr.add_zero'] at h1
  obtain ⟨al, rfl, _⟩ := kn_at h3 0 (by omega)
  refine ⟨ad, al, c, e, h1, ?_, ?_⟩
  ·rw [← hlo]; exact (kn_at0 h3 (by omega)).1
  ·rw [← hhi]; unfold hi0; rw [show l0.length - 1 = p by omega]; exact (kn_at2 h3 p (by omega)).1⟩
 have HX : Aside0 (∀ w', Below w.heap.size w w' → Ws w' A2 xs) := ⟨fun w' hb => hX.below hb⟩
 have HG := Aside0.mk hx
 have HXY : Aside0 (∀ w', Below w.heap.size w w' → Ws w' A3 ys) := ⟨fun w' hb => hY.below hb⟩
 have HGY := Aside0.mk hy
 obtain ⟨n, hn⟩ : ∃ n, ls.length = n := ⟨_, rfl⟩
 obtain ⟨m, hmm⟩ : ∃ n, xs.length = n := ⟨_, rfl⟩
 obtain ⟨k, hkk⟩ : ∃ n, ys.length = n := ⟨_, rfl⟩
 obtain ⟨p1, hp1⟩ : ∃ n, l0.length = n := ⟨_, rfl⟩
 have HM := Aside0.mk hmm
 have HKK := Aside0.mk hkk
 rw [hn] at HMAY HSO h18 ⊢
 rw [hmm] at g1 ⊢
 rw [hkk] at g2 ⊢
 rw [hp1] at HLK hp hl64
 have d1 : decide ((m : Int) > 60) = false := decide_eq_false (by omega)
 have d2 : (60 < m) = False := eq_false g1
 have d5 : decide ((k : Int) > 60) = false := decide_eq_false (by omega)
 have d6 : (60 < k) = False := eq_false g2
 have wp : IntKind.i64.wrap ((p1 : Int) - 1) = (p : Int) := by rw [show IntKind.i64.wrap ((p1 : Int) - 1) = wrap64 ((p1 : Int) - 1) from i64_w _, w64 (by omega) (by omega)]; omega
 have d3 : decide ((0 : Int) < (p1 : Int)) = true := decide_eq_true (by omega)
 have d4 : (0 < p1) = True := eq_true (by omega)
 have d7 : decide ((0 : Int) < (n : Int)) = true := decide_eq_true (by omega)
 have d8 : (0 < n) = True := eq_true (by omega)
 have HSZ : Aside0 (m ≤ 60 ∧ k ≤ 60) := ⟨by omega⟩
 have e1p : decide ((0 : Int) ≤ (p : Int)) = true := decide_eq_true (by omega)
 have e2p : decide ((p : Int) < (p1 : Int)) = true := decide_eq_true (by omega)
 have e5p : ((0 : Int) ≤ (p : Int)) = True := eq_true (by omega)
 have e6p : ((p : Int) < (p1 : Int)) = True := eq_true (by omega)
 have e7p : (p < p1) = True := eq_true (by omega)
 clear hK hc1 hl hX hc2 hx hY hc3 hy g1 g2 hm hm2 hv hv0 h18 RF EN hF hlo hhi hl0 hp hl64 hn hmm hkk hp1
 go_enter Try.func8, Try.ntmps8
 obtain ⟨ad, al, cl, rfl, k0, k1, k2⟩ := HLK.out w (Below.refl _ _)
 clear k0 k1 k2
 go_wp2_with (first | (go_at_call 10; (with_reducible refine (known_calls _).mono ?_); rintro e w1 ⟨rfl, hb⟩; have B1 := Aside0.mk hb; clear hb) | (go_at_call 19; (with_reducible refine (HMAY.out w1 B1.out).mono ?_); rintro e w2 ⟨rfl, hb⟩; have B2 := Aside0.mk (below_step B1.out hb); clear hb) | (go_at_call 20; (with_reducible refine (HSO.out w2 B2.out).mono ?_); rintro e w3 ⟨gc, gs, rfl, hC, hb⟩; have B3 := Aside0.mk (below_step B2.out hb); have C3 : Aside0 (ChB w3 gc gs ls) := ⟨hC⟩; clear hC hb))
 obtain ⟨ad3, al3, cl3, e3, k0, k1, k2⟩ := HLK.out w3 B3.out
 obtain rfl := Option.some.inj e3
 clear e3
 refine start_ (n := 19) (S := fun w' => w'.cell? ad = some (.slice (some al3) p1 cl3) ∧ w'.cell? al3 = some (.int .u32 (lo : Int)) ∧ w'.cell? (al3.add (p * 2)) = some (.int .u32 (hi : Int))) (ds := []) #[ff_,ff_,ff_,ff_,ff_,ff_,ff_,ff_,ff_,ff_,ff_,ff_,ff_,ff_,ff_,ff_,ff_,ff_,ff_] (by kernel_rfl) rfl rfl ⟨k0, k1, k2⟩ (fun hHeld => ?_)
 refine pure_ (i := 0) (N := some 37) (v := ?_) (a' := ?_) #[tt_,ff_,ff_,ff_,ff_,ff_,ff_,ff_,ff_,ff_,ff_,ff_,ff_,ff_,ff_,ff_,ff_,ff_,ff_] rfl rfl (by kernel_rfl) (fun _ _ _ h => h) (Or.inl ⟨by rfl, ?_⟩) ?_ ?_
 rotate_left
 ·intro w'
  go_simp
  with_reducible rfl
 rotate_left
 ·simp only [Act.put, List.setIfInBounds_toArray, List.set_cons_zero, List.set_cons_succ, i64_w, i32_w]
  rfl
 refine pure_ (i := 1) (N := some 38) (v := ?_) (a' := ?_) #[tt_,tt_,ff_,ff_,ff_,ff_,ff_,ff_,ff_,ff_,ff_,ff_,ff_,ff_,ff_,ff_,ff_,ff_,ff_] rfl rfl (by kernel_rfl) (fun _ _ _ h => h) (Or.inl ⟨by rfl, ?_⟩) ?_ ?_
 rotate_left
 ·intro w'
  go_simp
  with_reducible rfl
 rotate_left
 ·simp only [Act.put, List.setIfInBounds_toArray, List.set_cons_zero, List.set_cons_succ, i64_w, i32_w]
  rfl
 refine pure_ (i := 6) (N := some 43) (v := ?_) (a' := ?_) #[tt_,tt_,ff_,ff_,ff_,ff_,tt_,ff_,ff_,ff_,ff_,ff_,ff_,ff_,ff_,ff_,ff_,ff_,ff_] rfl rfl (by kernel_rfl) (fun _ _ _ h => h) (Or.inl ⟨by rfl, ?_⟩) ?_ ?_
 rotate_left
 ·intro w'
  go_simp
  with_reducible rfl
 rotate_left
 ·simp only [Act.put, List.setIfInBounds_toArray, List.set_cons_zero, List.set_cons_succ, i64_w, i32_w]
  rfl
 refine pure_ (i := 7) (N := some 44) (v := ?_) (a' := ?_) #[tt_,tt_,ff_,ff_,ff_,ff_,tt_,tt_,ff_,ff_,ff_,ff_,ff_,ff_,ff_,ff_,ff_,ff_,ff_] rfl rfl (by kernel_rfl) (fun _ _ _ h => h) (Or.inl ⟨by rfl, ?_⟩) ?_ ?_
 rotate_left
 ·intro w'
  go_simp
  with_reducible rfl
 rotate_left
 ·simp only [Act.put, List.setIfInBounds_toArray, List.set_cons_zero, List.set_cons_succ, i64_w, i32_w]
  rfl
 refine pure_ (i := 9) (N := some 46) (v := ?_) (a' := ?_) #[tt_,tt_,ff_,ff_,ff_,ff_,tt_,tt_,ff_,tt_,ff_,ff_,ff_,ff_,ff_,ff_,ff_,ff_,ff_] rfl rfl (by kernel_rfl) (fun _ _ _ h => h) (Or.inl ⟨by rfl, ?_⟩) ?_ ?_
 rotate_left
 ·intro w'
  go_simp
  with_reducible rfl
 rotate_left
 ·simp only [Act.put, List.setIfInBounds_toArray, List.set_cons_zero, List.set_cons_succ, i64_w, i32_w]
  rfl
 refine pure_ (i := 10) (N := some 47) (v := ?_) (a' := ?_) #[tt_,tt_,ff_,ff_,ff_,ff_,tt_,tt_,ff_,tt_,tt_,ff_,ff_,ff_,ff_,ff_,ff_,ff_,ff_] rfl rfl (by kernel_rfl) (fun _ _ _ h => h) (Or.inl ⟨by rfl, ?_⟩) ?_ ?_
 rotate_left
 ·intro w'
  go_simp
  with_reducible rfl
 rotate_left
 ·simp only [Act.put, List.setIfInBounds_toArray, List.set_cons_zero, List.set_cons_succ, i64_w, i32_w]
  rfl
 refine take_ (i := 2) (N := some 39) (v := ?_) (a' := ?_) #[tt_,tt_,tt_,ff_,ff_,ff_,tt_,tt_,ff_,tt_,tt_,ff_,ff_,ff_,ff_,ff_,ff_,ff_,ff_] rfl rfl (by kernel_rfl) (fun _ _ _ h => h) (Or.inl ⟨by rfl, ?_⟩) hHeld ?_ ?_
 rotate_left
 ·rintro w' ⟨s0, s1, s2⟩
  go_simp
  with_reducible rfl
 rotate_left
 ·simp only [Act.put, List.setIfInBounds_toArray, List.set_cons_zero, List.set_cons_succ, i64_w, i32_w]
  rfl
 refine pure_ (i := 3) (N := some 40) (v := ?_) (a' := ?_) #[tt_,tt_,tt_,tt_,ff_,ff_,tt_,tt_,ff_,tt_,tt_,ff_,ff_,ff_,ff_,ff_,ff_,ff_,ff_] rfl rfl (by kernel_rfl) (fun _ _ _ h => h) (Or.inl ⟨by rfl, ?_⟩) ?_ ?_
 rotate_left
 ·intro w'
  go_simp
  with_reducible rfl
 rotate_left
 ·simp only [Act.put, List.setIfInBounds_toArray, List.set_cons_zero, List.set_cons_succ, i64_w, i32_w]
  rfl
 refine pure_ (i := 4) (N := some 41) (v := ?_) (a' := ?_) #[tt_,tt_,tt_,tt_,tt_,ff_,tt_,tt_,ff_,tt_,tt_,ff_,ff_,ff_,ff_,ff_,ff_,ff_,ff_] rfl rfl (by kernel_rfl) (fun _ _ _ h => h) (Or.inl ⟨by rfl, ?_⟩) ?_ ?_
 rotate_left
 ·intro w'
  go_simp
  with_reducible rfl
 rotate_left
 ·simp only [Act.put, List.setIfInBounds_toArray, List.set_cons_zero, List.set_cons_succ, i64_w, i32_w]
  rfl
 refine take_ (i := 5) (N := some 42) (v := ?_) (a' := ?_) #[tt_,tt_,tt_,tt_,tt_,tt_,tt_,tt_,ff_,tt_,tt_,ff_,ff_,ff_,ff_,ff_,ff_,ff_,ff_] rfl rfl (by kernel_rfl) (fun _ _ _ h => h) (Or.inl ⟨by rfl, ?_⟩) hHeld ?_ ?_
 rotate_left
 ·rintro w' ⟨s0, s1, s2⟩
  go_simp
  with_reducible rfl
 rotate_left
 ·simp only [Act.put, List.setIfInBounds_toArray, List.set_cons_zero, List.set_cons_succ, i64_w, i32_w]
  rfl
 refine pure_ (i := 17) (N := some 8) (v := ?_) (a' := ?_) #[tt_,tt_,tt_,tt_,tt_,tt_,tt_,tt_,ff_,tt_,tt_,ff_,ff_,ff_,ff_,ff_,ff_,tt_,ff_] rfl rfl (by kernel_rfl) (fun _ _ _ h => h) (Or.inl ⟨by rfl, ?_⟩) ?_ ?_
 rotate_left
 ·intro w'
  go_simp
  with_reducible rfl
 rotate_left
 ·simp only [Act.put, List.setIfInBounds_toArray, List.set_cons_zero, List.set_cons_succ, i64_w, i32_w]
  rfl
 refine take_ (i := 8) (N := some 45) (v := ?_) (a' := ?_) #[tt_,tt_,tt_,tt_,tt_,tt_,tt_,tt_,tt_,tt_,tt_,ff_,ff_,ff_,ff_,ff_,ff_,tt_,ff_] rfl rfl (by kernel_rfl) (fun _ _ _ h => h) (Or.inl ⟨by rfl, ?_⟩) hHeld ?_ ?_
 rotate_left
 ·rintro w' ⟨s0, s1, s2⟩
  go_simp
  with_reducible rfl
 rotate_left
 ·simp only [Act.put, List.setIfInBounds_toArray, List.set_cons_zero, List.set_cons_succ, i64_w, i32_w]
  rfl
 refine take_ (i := 11) (N := some 48) (v := ?_) (a' := ?_) #[tt_,tt_,tt_,tt_,tt_,tt_,tt_,tt_,tt_,tt_,tt_,tt_,ff_,ff_,ff_,ff_,ff_,tt_,ff_] rfl rfl (by kernel_rfl) (fun _ _ _ h => h) (Or.inl ⟨by rfl, ?_⟩) hHeld ?_ ?_
 rotate_left
 ·rintro w' ⟨s0, s1, s2⟩
  go_simp
  with_reducible rfl
 rotate_left
 ·simp only [Act.put, List.setIfInBounds_toArray, List.set_cons_zero, List.set_cons_succ, i64_w, i32_w]
  rfl
 refine pure_ (i := 12) (N := some 49) (v := ?_) (a' := ?_) #[tt_,tt_,tt_,tt_,tt_,tt_,tt_,tt_,tt_,tt_,tt_,tt_,tt_,ff_,ff_,ff_,ff_,tt_,ff_] rfl rfl (by kernel_rfl) (fun _ _ _ h => h) (Or.inl ⟨by rfl, ?_⟩) ?_ ?_
 rotate_left
 ·intro w'
  go_simp
  with_reducible rfl
 rotate_left
 ·simp only [Act.put, List.setIfInBounds_toArray, List.set_cons_zero, List.set_cons_succ, i64_w, i32_w]
  rfl
 refine pure_ (i := 13) (N := some 50) (v := ?_) (a' := ?_) #[tt_,tt_,tt_,tt_,tt_,tt_,tt_,tt_,tt_,tt_,tt_,tt_,tt_,tt_,ff_,ff_,ff_,tt_,ff_] rfl rfl (by kernel_rfl) (fun _ _ _ h => h) (Or.inl ⟨by rfl, ?_⟩) ?_ ?_
 rotate_left
 ·intro w'
  go_simp
  with_reducible rfl
 rotate_left
 ·simp only [Act.put, List.setIfInBounds_toArray, List.set_cons_zero, List.set_cons_succ, i64_w, i32_w]
  rfl
 refine pure_ (i := 14) (N := some 51) (v := ?_) (a' := ?_) #[tt_,tt_,tt_,tt_,tt_,tt_,tt_,tt_,tt_,tt_,tt_,tt_,tt_,tt_,tt_,ff_,ff_,tt_,ff_] rfl rfl (by kernel_rfl) (fun _ _ _ h => h) (Or.inl ⟨by rfl, ?_⟩) ?_ ?_
 rotate_left
 ·intro w'
  go_simp
  with_reducible rfl
 rotate_left
 ·simp only [Act.put, List.setIfInBounds_toArray, List.set_cons_zero, List.set_cons_succ, i64_w, i32_w]
  rfl
 refine pure_ (i := 15) (N := some 52) (v := ?_) (a' := ?_) #[tt_,tt_,tt_,tt_,tt_,tt_,tt_,tt_,tt_,tt_,tt_,tt_,tt_,tt_,tt_,tt_,ff_,tt_,ff_] rfl rfl (by kernel_rfl) (fun _ _ _ h => h) (Or.inl ⟨by rfl, ?_⟩) ?_ ?_
 rotate_left
 ·intro w'
  go_simp
  with_reducible rfl
 rotate_left
 ·simp only [Act.put, List.setIfInBounds_toArray, List.set_cons_zero, List.set_cons_succ, i64_w, i32_w]
  rfl
 refine take_ (i := 16) (N := some 53) (v := ?_) (a' := ?_) #[tt_,tt_,tt_,tt_,tt_,tt_,tt_,tt_,tt_,tt_,tt_,tt_,tt_,tt_,tt_,tt_,tt_,tt_,ff_] rfl rfl (by kernel_rfl) (fun _ _ _ h => h) (Or.inl ⟨by rfl, ?_⟩) hHeld ?_ ?_
 rotate_left
 ·rintro w' ⟨s0, s1, s2⟩
  go_simp
  with_reducible rfl
 rotate_left
 ·simp only [Act.put, List.setIfInBounds_toArray, List.set_cons_zero, List.set_cons_succ, i64_w, i32_w]
  rfl
 refine pure_ (i := 18) (N := some 9) (v := ?_) (a' := ?_) #[tt_,tt_,tt_,tt_,tt_,tt_,tt_,tt_,tt_,tt_,tt_,tt_,tt_,tt_,tt_,tt_,tt_,tt_,tt_] rfl rfl (by kernel_rfl) (fun _ _ _ h => h) (Or.inl ⟨by rfl, ?_⟩) ?_ ?_
 rotate_left
 ·intro w'
  go_simp
  with_reducible rfl
 rotate_left
 ·simp only [Act.put, List.setIfInBounds_toArray, List.set_cons_zero, List.set_cons_succ, i64_w, i32_w]
  rfl
 refine done_ (by kernel_rfl) ?_
 have B4 : Aside0 (Below w.heap.size w w3.drew) := ⟨below_drew B3.out⟩
 have C4 : Aside0 (ChB w3.drew gc gs ls) := ⟨C3.out.below (below_drew (Below.refl _ _))⟩
 clear k0 k1 k2
 generalize w3.drew = W0 at *
 clear B3 C3
 have HCW : Aside0 (∀ W, Below W0.heap.size W0 W → ChB W gc gs ls) := ⟨fun W hb => C4.out.below hb⟩
 clear C4
 go_wp2
 go_loopg [10] k (fun kx s10 wr => ∃ i : Nat, s10 = .int .i64 (i : Int) ∧ i ≤ k ∧ k - i ≤ kx ∧ Aside0 (Below W0.heap.size W0 wr))
 case atStart => exact ⟨0, rfl, Nat.zero_le _, by omega, ⟨Below.refl _ _⟩⟩
 case round =>
  obtain ⟨i, rfl, i1, i2, HB⟩ := hrel
  have hs := HSZ.out
  by_cases hin : i < k
  case pos =>
   have HIN := Aside0.mk hin
   have HIX : Aside0 (i < ys.length) := ⟨by have := HKK.out; omega⟩
   have e1i : decide ((0 : Int) ≤ (i : Int)) = true := decide_eq_true (by omega)
   have e2i : decide ((i : Int) < (k : Int)) = true := decide_eq_true (by omega)
   have e5i : ((0 : Int) ≤ (i : Int)) = True := eq_true (by omega)
   have e6i : ((i : Int) < (k : Int)) = True := eq_true (by omega)
   have e7i : (i < k) = True := eq_true (by omega)
   have wi : IntKind.i64.wrap ((i : Int) + 1) = ((i + 1 : Nat) : Int) := by rw [show IntKind.i64.wrap ((i : Int) + 1) = wrap64 ((i : Int) + 1) from i64_w _, w64 (by omega) (by omega)]; omega
   obtain ⟨ay, rfl, hcx⟩ := (HXY.out wr (below_step B4.out HB.out)).at_ i HIX.out
   obtain ⟨q, hq⟩ : ∃ q, gt ys i = q := ⟨_, rfl⟩
   have HQ : Aside0 (q < 4294967296) := ⟨by rw [← hq]; exact HGY.out i⟩
   rw [hq] at hcx
   have HCX : Aside0 (∀ W, Below wr.heap.size wr W → W.cell? (ay.add i) = some (.int .u32 (q : Int))) := ⟨fun W hb => pw_cell_below hb hcx⟩
   have B_0 : Aside0 (Below wr.heap.size wr wr) := ⟨Below.refl _ _⟩
   obtain ⟨P, hP⟩ : ∃ P, lst F lo hi q = P := ⟨_, rfl⟩
   have en := HEN.out
   clear hs hin hq
   cases hno : noY F hi q
   case true =>
    have hl := HCL.out
    have HL1 : Aside0 (∀ W, Below wr.heap.size wr W → Calls Try.prog 27 #[.pointer (some ⟨gc, 0, none⟩), .int .u32 (q : Int)] W fun e w' => e = .returned (.tuple #[.agg #[.int .u32 0, .int .u32 0, .bool false], .int .i64 43]) ∧ Below W.heap.size W w') := ⟨fun W hb => by
     have := HCL.out W gc gs q HQ.out (HCW.out W (below_step HB.out hb))
     rw [lst_no hno] at this
     have e : lerr F hi q = 43 := by unfold lerr; rw [hno]; rfl
     rw [e] at this
     exact this⟩
    have HA1 : Aside0 (∀ W, Below wr.heap.size wr W → Calls Try.prog 22 #[.pointer (some ⟨gc, 0, none⟩), .int .u32 (hi : Int)] W fun e w' => e = .returned (.int .u32 ((F hi : Nat) : Int)) ∧ Below W.heap.size W w') := ⟨fun W hb => HCH.out W gc gs hi en.2.1 (HCW.out W (below_step HB.out hb))⟩
    have hne : ∀ w : World, (binOp .neq 32 (.agg #[.int .u32 0, .int .u32 0, .bool false]) (.agg #[.int .u32 0, .int .u32 0, .bool false])).run Try.prog w = .ok (.bool false) w := fun w => by
     have := neq32 ⟨0, 0, false⟩ ⟨0, 0, false⟩ w
     rwa [decide_eq_true rfl] at this
    obtain ⟨z1, z2⟩ := meets_no HRF.out en.1 en.2.1 en.2.2.1 en.2.2.2.1 en.2.2.2.2 HQ.out hno
    obtain ⟨fh, hfh⟩ : ∃ f, F hi = f := ⟨_, rfl⟩
    rw [hfh] at HA1 z1 z2
    clear hl hP hno en hfh
    go_wp2_with (first | (go_at_call 27; (with_reducible refine (HL1.out _ B_0.out).mono ?_); rintro e w1 ⟨rfl, hb⟩; have B_1 := Aside0.mk (below_step B_0.out hb); clear hcx; clear hb) | ((with_reducible refine gate_dst (N := 11) rfl ?_); refine box_event ?hg (N := 11) ?hd (cs := #[.int .u32 0, .int .u32 0, .bool false]) (t := 32) ?hr ?_; (case hd => rfl); (case hg => rfl); (case hr => first | (go_simp; done) | (go_simp; rfl)); intro g11 hg_ w2 hm_ hb_; have GP := Aside0.mk (show wr.heap.size ≤ g11 by rw [hg_]; exact B_1.out.size); have B_2 := Aside0.mk (below_step B_1.out hb_); have P_2 := Aside0.mk (hm_); clear hm_ hb_ hg_) | ((with_reducible refine gate_store (p := 11) rfl ?_); refine store_event rfl rfl rfl g11 #[.int .u32 0, .int .u32 0, .bool false] _ 32 rfl rfl P_2.out size32 rfl (by simp [Value.oneCell']) ?_; intro w3 hm_ hst_ hbl_; have B_3 := Aside0.mk (B_2.out.trans (hbl_ _ GP.out)); have P_3 := Aside0.mk (hm_); clear P_2 hm_ hst_ hbl_; have hcx := HCX.out _ B_3.out) | ((with_reducible refine gate_dst (N := 73) rfl ?_); refine evg (by rfl) (.float .f32 q) ?hr ?_; (case hr => first | (go_simp; done) | (go_simp; rfl))) | ((with_reducible refine gate_dst (N := 79) rfl ?_); refine loadg32 rfl ?hw g11 _ _ _ rfl P_3.out ?_; (case hw => rfl)) | (go_at_call 22; (with_reducible refine (HA1.out _ B_3.out).mono ?_); rintro e w4 ⟨rfl, hb⟩; have B_4 := Aside0.mk (below_step B_3.out hb); have P_4 := Aside0.mk (blk_below P_3.out hb); clear P_3; clear hcx; clear hb) | ((with_reducible refine gate_dst (N := 88) rfl ?_); refine evg (by rfl) (.float .f32 fh) ?hr ?_; (case hr => first | (go_simp; done) | (go_simp; rfl))))
    go_roundg (k - (i + 1))
    case measure => have := HIN.out; omega
    case rel => exact ⟨i + 1, by first | rfl | (congr 1; omega), HIN.out, by omega, ⟨below_step HB.out B_4.out⟩⟩
   case false =>
    obtain ⟨nq, hPX, nFX, hge, hBl, hHf⟩ := meets_ok HRF.out en.1 en.2.1 en.2.2.1 en.2.2.2.1 en.2.2.2.2 HQ.out hno
    have hck : ckP F lo hi q P = true := by
     rw [check_lst HRF.out en.1 en.2.1 en.2.2.1 en.2.2.2.1 en.2.2.2.2 HQ.out P (by rw [← hP]; exact hPX), hno, hP, decide_eq_true rfl]; rfl
    rw [hP] at hPX nFX hge hBl hHf
    have HL1 : Aside0 (∀ W, Below wr.heap.size wr W → Calls Try.prog 27 #[.pointer (some ⟨gc, 0, none⟩), .int .u32 (q : Int)] W fun e w' => e = .returned (.tuple #[.agg #[.int .u32 (P.X : Int), .int .u32 (P.B : Int), .bool P.H], .int .i64 0]) ∧ Below W.heap.size W w') := ⟨fun W hb => by
     have := HCL.out W gc gs q HQ.out (HCW.out W (below_step HB.out hb))
     rw [hP] at this
     have e : lerr F hi q = 0 := by unfold lerr; rw [hno]; rfl
     rw [e] at this
     exact this⟩
    have HA1 : Aside0 (∀ W (x : Nat), x < 4294967296 → Below wr.heap.size wr W → Calls Try.prog 22 #[.pointer (some ⟨gc, 0, none⟩), .int .u32 (x : Int)] W fun e w' => e = .returned (.int .u32 ((F x : Nat) : Int)) ∧ Below W.heap.size W w') := ⟨fun W x hx hb => HCH.out W gc gs x hx (HCW.out W (below_step HB.out hb))⟩
    have HK1 : Aside0 (∀ W, Below wr.heap.size wr W → Calls Try.prog 28 #[.pointer (some ⟨gc, 0, none⟩), .int .u32 (q : Int), .agg #[.int .u32 (P.X : Int), .int .u32 (P.B : Int), .bool P.H]] W fun e w' => e = .returned (.bool true) ∧ Below W.heap.size W w') := ⟨fun W hb => by
     have := HCK.out W gc gs q P HQ.out hPX (HCW.out W (below_step HB.out hb))
     rwa [hck] at this⟩
    obtain ⟨z1, z2⟩ := geq_t (HRF.out.word _ hPX) HQ.out nFX nq hge
    obtain ⟨pX, pB, pH⟩ := P
    simp only at HL1 HK1 z1 z2 hPX hBl hHf
    have HPX := Aside0.mk hPX
    cases pH
    case false =>
     have hx0 : ((pX : Int) != (lo : Int)) = false := by rw [hHf rfl, bne_eq_false_iff_eq]
     clear hP hno en hck hge hBl hHf nq nFX hPX
     go_wp2_with (first | (go_at_call 27; (with_reducible refine (HL1.out _ B_0.out).mono ?_); rintro e w1 ⟨rfl, hb⟩; have B_1 := Aside0.mk (below_step B_0.out hb); clear hcx; clear hb) | ((with_reducible refine gate_dst (N := 11) rfl ?_); refine box_event ?hg (N := 11) ?hd (cs := #[.int .u32 0, .int .u32 0, .bool false]) (t := 32) ?hr ?_; (case hd => rfl); (case hg => rfl); (case hr => first | (go_simp; done) | (go_simp; rfl)); intro g11 hg_ w2 hm_ hb_; have GP := Aside0.mk (show wr.heap.size ≤ g11 by rw [hg_]; exact B_1.out.size); have B_2 := Aside0.mk (below_step B_1.out hb_); have P_2 := Aside0.mk (hm_); clear hm_ hb_ hg_) | ((with_reducible refine gate_store (p := 11) rfl ?_); refine store_event rfl rfl rfl g11 #[.int .u32 (pX : Int), .int .u32 (pB : Int), .bool false] _ 32 rfl rfl P_2.out size32 rfl (by simp [Value.oneCell']) ?_; intro w3 hm_ hst_ hbl_; have B_3 := Aside0.mk (B_2.out.trans (hbl_ _ GP.out)); have P_3 := Aside0.mk (hm_); clear P_2 hm_ hst_ hbl_; have hcx := HCX.out _ B_3.out) | ((with_reducible refine gate_dst (N := 73) rfl ?_); refine evg (by rfl) (.float .f32 q) ?hr ?_; (case hr => first | (go_simp; done) | (go_simp; rfl))))
     clear hcx
     have hk32 := Try.underlying32
     have B_4 : Aside0 (Below wr.heap.size wr w3.drew) := ⟨below_drew B_3.out⟩
     have P_4 := Aside0.mk (blk_drew P_3.out)
     clear B_3 P_3
     refine start_ (n := 43) (S := fun w' => w'.cell? (ay.add i) = some (.int .u32 (q : Int)) ∧ w'.cell? ⟨g11, 0, none⟩ = some (.int .u32 (pX : Int)) ∧ w'.cell? ⟨g11, 1, none⟩ = some (.int .u32 (pB : Int)) ∧ w'.cell? ⟨g11, 2, none⟩ = some (.bool false)) (ds := []) #[ff_,ff_,ff_,ff_,ff_,ff_,ff_,ff_,ff_,ff_,ff_,ff_,ff_,ff_,ff_,ff_,ff_,ff_,ff_,ff_,ff_,ff_,ff_,ff_,ff_,ff_,ff_,ff_,ff_,ff_,ff_,ff_,ff_,ff_,ff_,ff_,ff_,ff_,ff_,ff_,ff_,ff_,ff_] (by kernel_rfl) rfl rfl ⟨HCX.out _ B_4.out, (blk_cell P_4.out 0).trans rfl, (blk_cell P_4.out 1).trans rfl, (blk_cell P_4.out 2).trans rfl⟩ (fun hHeld => ?_)
     generalize w3.drew = w4 at *
     refine pure_ (i := 0) (N := some 91) (v := ?_) (a' := ?_) #[tt_,ff_,ff_,ff_,ff_,ff_,ff_,ff_,ff_,ff_,ff_,ff_,ff_,ff_,ff_,ff_,ff_,ff_,ff_,ff_,ff_,ff_,ff_,ff_,ff_,ff_,ff_,ff_,ff_,ff_,ff_,ff_,ff_,ff_,ff_,ff_,ff_,ff_,ff_,ff_,ff_,ff_,ff_] rfl rfl (by kernel_rfl) (fun _ _ _ h => h) (Or.inl ⟨by rfl, ?_⟩) ?_ ?_
     rotate_left
     ·intro w'
      go_simp
      with_reducible rfl
     rotate_left
     ·simp only [Act.put, List.setIfInBounds_toArray, List.set_cons_zero, List.set_cons_succ, i64_w, i32_w]
      rfl
     refine pure_ (i := 1) (N := some 92) (v := ?_) (a' := ?_) #[tt_,tt_,ff_,ff_,ff_,ff_,ff_,ff_,ff_,ff_,ff_,ff_,ff_,ff_,ff_,ff_,ff_,ff_,ff_,ff_,ff_,ff_,ff_,ff_,ff_,ff_,ff_,ff_,ff_,ff_,ff_,ff_,ff_,ff_,ff_,ff_,ff_,ff_,ff_,ff_,ff_,ff_,ff_] rfl rfl (by kernel_rfl) (fun _ _ _ h => h) (Or.inl ⟨by rfl, ?_⟩) ?_ ?_
     rotate_left
     ·intro w'
      go_simp
      with_reducible rfl
     rotate_left
     ·simp only [Act.put, List.setIfInBounds_toArray, List.set_cons_zero, List.set_cons_succ, i64_w, i32_w]
      rfl
     refine pure_ (i := 5) (N := some 96) (v := ?_) (a' := ?_) #[tt_,tt_,ff_,ff_,ff_,tt_,ff_,ff_,ff_,ff_,ff_,ff_,ff_,ff_,ff_,ff_,ff_,ff_,ff_,ff_,ff_,ff_,ff_,ff_,ff_,ff_,ff_,ff_,ff_,ff_,ff_,ff_,ff_,ff_,ff_,ff_,ff_,ff_,ff_,ff_,ff_,ff_,ff_] rfl rfl (by kernel_rfl) (fun _ _ _ h => h) (Or.inl ⟨by rfl, ?_⟩) ?_ ?_
     rotate_left
     ·intro w'
      go_simp
      with_reducible rfl
     rotate_left
     ·simp only [Act.put, List.setIfInBounds_toArray, List.set_cons_zero, List.set_cons_succ, i64_w, i32_w]
      rfl
     refine take_ (i := 2) (N := some 93) (v := ?_) (a' := ?_) #[tt_,tt_,tt_,ff_,ff_,tt_,ff_,ff_,ff_,ff_,ff_,ff_,ff_,ff_,ff_,ff_,ff_,ff_,ff_,ff_,ff_,ff_,ff_,ff_,ff_,ff_,ff_,ff_,ff_,ff_,ff_,ff_,ff_,ff_,ff_,ff_,ff_,ff_,ff_,ff_,ff_,ff_,ff_] rfl rfl (by kernel_rfl) (fun _ _ _ h => h) (Or.inl ⟨by rfl, ?_⟩) hHeld ?_ ?_
     rotate_left
     ·rintro w' ⟨s0, s1, s2, s3⟩
      go_simp
      with_reducible rfl
     rotate_left
     ·simp only [Act.put, List.setIfInBounds_toArray, List.set_cons_zero, List.set_cons_succ, i64_w, i32_w]
      rfl
     refine one_ (i := 3) (N := some 94) #[tt_,tt_,tt_,tt_,ff_,tt_,ff_,ff_,ff_,ff_,ff_,ff_,ff_,ff_,ff_,ff_,ff_,ff_,ff_,ff_,ff_,ff_,ff_,ff_,ff_,ff_,ff_,ff_,ff_,ff_,ff_,ff_,ff_,ff_,ff_,ff_,ff_,ff_,ff_,ff_,ff_,ff_,ff_] rfl rfl (by kernel_rfl) (by decide) (fun K hK => ?_)
     refine goes_ Try.func22 (by kernel_rfl) rfl #[.pointer (some ⟨gc, 0, none⟩), .int .u32 (pX : Int)] (by rfl) rfl rfl (by (try simp only [List.map_toArray, List.map_cons, List.map_nil]); rfl) ?_
     with_reducible refine (HA1.out _ pX HPX.out B_4.out).mono ?_
     rintro e w5 ⟨rfl, hb⟩
     refine ⟨_, rfl, ?_⟩
     have B_5 := Aside0.mk (below_step B_4.out hb)
     have P_5 := Aside0.mk (blk_below P_4.out hb)
     clear P_4
     clear hb
     refine hK.out _ _ ⟨HCX.out _ B_5.out, (blk_cell P_5.out 0).trans rfl, (blk_cell P_5.out 1).trans rfl, (blk_cell P_5.out 2).trans rfl⟩ (fun hHeld => ?_)
     clear hK K
     refine norm_ (a' := ?_) ?_ ?_
     rotate_left
     ·show Act.put _ (some 94) _ = _
      simp only [Act.put, List.setIfInBounds_toArray, List.set_cons_zero, List.set_cons_succ, i64_w, i32_w]
      rfl
     refine one_ (i := 4) (N := some 95) #[tt_,tt_,tt_,tt_,tt_,tt_,ff_,ff_,ff_,ff_,ff_,ff_,ff_,ff_,ff_,ff_,ff_,ff_,ff_,ff_,ff_,ff_,ff_,ff_,ff_,ff_,ff_,ff_,ff_,ff_,ff_,ff_,ff_,ff_,ff_,ff_,ff_,ff_,ff_,ff_,ff_,ff_,ff_] rfl rfl (by kernel_rfl) (by decide) (fun K hK => ?_)
     refine value_ (w1 := w5) (v := .float .f32 (F pX)) (by rfl) rfl ?_ ?_
     ·first | (go_simp; done) | (go_simp; rfl)
     refine hK.out _ _ ⟨HCX.out _ B_5.out, (blk_cell P_5.out 0).trans rfl, (blk_cell P_5.out 1).trans rfl, (blk_cell P_5.out 2).trans rfl⟩ (fun hHeld => ?_)
     clear hK K
     refine norm_ (a' := ?_) ?_ ?_
     rotate_left
     ·show Act.put _ (some 95) _ = _
      simp only [Act.put, List.setIfInBounds_toArray, List.set_cons_zero, List.set_cons_succ, i64_w, i32_w]
      rfl
     refine pure_ (i := 6) (N := some 97) (v := ?_) (a' := ?_) #[tt_,tt_,tt_,tt_,tt_,tt_,tt_,ff_,ff_,ff_,ff_,ff_,ff_,ff_,ff_,ff_,ff_,ff_,ff_,ff_,ff_,ff_,ff_,ff_,ff_,ff_,ff_,ff_,ff_,ff_,ff_,ff_,ff_,ff_,ff_,ff_,ff_,ff_,ff_,ff_,ff_,ff_,ff_] rfl rfl (by kernel_rfl) (fun _ _ _ h => h) (Or.inl ⟨by rfl, ?_⟩) ?_ ?_
     rotate_left
     ·intro w'
      go_simp
      with_reducible rfl
     rotate_left
     ·simp only [Act.put, List.setIfInBounds_toArray, List.set_cons_zero, List.set_cons_succ, i64_w, i32_w]
      rfl
     refine pure_ (i := 7) (N := some 98) (v := ?_) (a' := ?_) #[tt_,tt_,tt_,tt_,tt_,tt_,tt_,tt_,ff_,ff_,ff_,ff_,ff_,ff_,ff_,ff_,ff_,ff_,ff_,ff_,ff_,ff_,ff_,ff_,ff_,ff_,ff_,ff_,ff_,ff_,ff_,ff_,ff_,ff_,ff_,ff_,ff_,ff_,ff_,ff_,ff_,ff_,ff_] rfl rfl (by kernel_rfl) (fun _ _ _ h => h) (Or.inl ⟨by rfl, ?_⟩) ?_ ?_
     rotate_left
     ·intro w'
      go_simp
      with_reducible rfl
     rotate_left
     ·simp only [Act.put, List.setIfInBounds_toArray, List.set_cons_zero, List.set_cons_succ, i64_w, i32_w]
      rfl
     refine pure_ (i := 8) (N := some 99) (v := ?_) (a' := ?_) #[tt_,tt_,tt_,tt_,tt_,tt_,tt_,tt_,tt_,ff_,ff_,ff_,ff_,ff_,ff_,ff_,ff_,ff_,ff_,ff_,ff_,ff_,ff_,ff_,ff_,ff_,ff_,ff_,ff_,ff_,ff_,ff_,ff_,ff_,ff_,ff_,ff_,ff_,ff_,ff_,ff_,ff_,ff_] rfl rfl (by kernel_rfl) (fun _ _ _ h => h) (Or.inl ⟨by rfl, ?_⟩) ?_ ?_
     rotate_left
     ·intro w'
      go_simp
      with_reducible rfl
     rotate_left
     ·simp only [Act.put, List.setIfInBounds_toArray, List.set_cons_zero, List.set_cons_succ, i64_w, i32_w]
      rfl
     refine pure_ (i := 9) (N := some 100) (v := ?_) (a' := ?_) #[tt_,tt_,tt_,tt_,tt_,tt_,tt_,tt_,tt_,tt_,ff_,ff_,ff_,ff_,ff_,ff_,ff_,ff_,ff_,ff_,ff_,ff_,ff_,ff_,ff_,ff_,ff_,ff_,ff_,ff_,ff_,ff_,ff_,ff_,ff_,ff_,ff_,ff_,ff_,ff_,ff_,ff_,ff_] rfl rfl (by kernel_rfl) (fun _ _ _ h => h) (Or.inl ⟨by rfl, ?_⟩) ?_ ?_
     rotate_left
     ·intro w'
      go_simp
      with_reducible rfl
     rotate_left
     ·simp only [Act.put, List.setIfInBounds_toArray, List.set_cons_zero, List.set_cons_succ, i64_w, i32_w]
      rfl
     refine take_ (i := 10) (N := some 101) (v := ?_) (a' := ?_) #[tt_,tt_,tt_,tt_,tt_,tt_,tt_,tt_,tt_,tt_,tt_,ff_,ff_,ff_,ff_,ff_,ff_,ff_,ff_,ff_,ff_,ff_,ff_,ff_,ff_,ff_,ff_,ff_,ff_,ff_,ff_,ff_,ff_,ff_,ff_,ff_,ff_,ff_,ff_,ff_,ff_,ff_,ff_] rfl rfl (by kernel_rfl) (fun _ _ _ h => h) (Or.inl ⟨by rfl, ?_⟩) hHeld ?_ ?_
     rotate_left
     ·rintro w' ⟨s0, s1, s2, s3⟩
      go_simp
      with_reducible rfl
     rotate_left
     ·simp only [Act.put, List.setIfInBounds_toArray, List.set_cons_zero, List.set_cons_succ, i64_w, i32_w]
      rfl
     refine pure_ (i := 11) (N := some 102) (v := ?_) (a' := ?_) #[tt_,tt_,tt_,tt_,tt_,tt_,tt_,tt_,tt_,tt_,tt_,tt_,ff_,ff_,ff_,ff_,ff_,ff_,ff_,ff_,ff_,ff_,ff_,ff_,ff_,ff_,ff_,ff_,ff_,ff_,ff_,ff_,ff_,ff_,ff_,ff_,ff_,ff_,ff_,ff_,ff_,ff_,ff_] rfl rfl (by kernel_rfl) (fun _ _ _ h => h) (Or.inl ⟨by rfl, ?_⟩) ?_ ?_
     rotate_left
     ·intro w'
      go_simp
      with_reducible rfl
     rotate_left
     ·simp only [Act.put, List.setIfInBounds_toArray, List.set_cons_zero, List.set_cons_succ, i64_w, i32_w]
      rfl
     refine pure_ (i := 12) (N := some 103) (v := undef) (a' := ?_) #[tt_,tt_,tt_,tt_,tt_,tt_,tt_,tt_,tt_,tt_,tt_,tt_,tt_,ff_,ff_,ff_,ff_,ff_,ff_,ff_,ff_,ff_,ff_,ff_,ff_,ff_,ff_,ff_,ff_,ff_,ff_,ff_,ff_,ff_,ff_,ff_,ff_,ff_,ff_,ff_,ff_,ff_,ff_] rfl rfl (by kernel_rfl) (fun _ _ _ h => h) (Or.inr ⟨by rfl, rfl⟩) ?_ ?_
     rotate_left
     ·simp only [Act.put, List.setIfInBounds_toArray, List.set_cons_zero, List.set_cons_succ, i64_w, i32_w]
      rfl
     refine pure_ (i := 13) (N := some 104) (v := undef) (a' := ?_) #[tt_,tt_,tt_,tt_,tt_,tt_,tt_,tt_,tt_,tt_,tt_,tt_,tt_,tt_,ff_,ff_,ff_,ff_,ff_,ff_,ff_,ff_,ff_,ff_,ff_,ff_,ff_,ff_,ff_,ff_,ff_,ff_,ff_,ff_,ff_,ff_,ff_,ff_,ff_,ff_,ff_,ff_,ff_] rfl rfl (by kernel_rfl) (fun _ _ _ h => h) (Or.inr ⟨by rfl, rfl⟩) ?_ ?_
     rotate_left
     ·simp only [Act.put, List.setIfInBounds_toArray, List.set_cons_zero, List.set_cons_succ, i64_w, i32_w]
      rfl
     refine pure_ (i := 14) (N := some 105) (v := undef) (a' := ?_) #[tt_,tt_,tt_,tt_,tt_,tt_,tt_,tt_,tt_,tt_,tt_,tt_,tt_,tt_,tt_,ff_,ff_,ff_,ff_,ff_,ff_,ff_,ff_,ff_,ff_,ff_,ff_,ff_,ff_,ff_,ff_,ff_,ff_,ff_,ff_,ff_,ff_,ff_,ff_,ff_,ff_,ff_,ff_] rfl rfl (by kernel_rfl) (fun _ _ _ h => h) (Or.inr ⟨by rfl, rfl⟩) ?_ ?_
     rotate_left
     ·simp only [Act.put, List.setIfInBounds_toArray, List.set_cons_zero, List.set_cons_succ, i64_w, i32_w]
      rfl
     refine pure_ (i := 15) (N := some 106) (v := undef) (a' := ?_) #[tt_,tt_,tt_,tt_,tt_,tt_,tt_,tt_,tt_,tt_,tt_,tt_,tt_,tt_,tt_,tt_,ff_,ff_,ff_,ff_,ff_,ff_,ff_,ff_,ff_,ff_,ff_,ff_,ff_,ff_,ff_,ff_,ff_,ff_,ff_,ff_,ff_,ff_,ff_,ff_,ff_,ff_,ff_] rfl rfl (by kernel_rfl) (fun _ _ _ h => h) (Or.inr ⟨by rfl, rfl⟩) ?_ ?_
     rotate_left
     ·simp only [Act.put, List.setIfInBounds_toArray, List.set_cons_zero, List.set_cons_succ, i64_w, i32_w]
      rfl
     refine pure_ (i := 16) (N := some 107) (v := undef) (a' := ?_) #[tt_,tt_,tt_,tt_,tt_,tt_,tt_,tt_,tt_,tt_,tt_,tt_,tt_,tt_,tt_,tt_,tt_,ff_,ff_,ff_,ff_,ff_,ff_,ff_,ff_,ff_,ff_,ff_,ff_,ff_,ff_,ff_,ff_,ff_,ff_,ff_,ff_,ff_,ff_,ff_,ff_,ff_,ff_] rfl rfl (by kernel_rfl) (fun _ _ _ h => h) (Or.inr ⟨by rfl, rfl⟩) ?_ ?_
     rotate_left
     ·simp only [Act.put, List.setIfInBounds_toArray, List.set_cons_zero, List.set_cons_succ, i64_w, i32_w]
      rfl
     refine pure_ (i := 17) (N := some 108) (v := undef) (a' := ?_) #[tt_,tt_,tt_,tt_,tt_,tt_,tt_,tt_,tt_,tt_,tt_,tt_,tt_,tt_,tt_,tt_,tt_,tt_,ff_,ff_,ff_,ff_,ff_,ff_,ff_,ff_,ff_,ff_,ff_,ff_,ff_,ff_,ff_,ff_,ff_,ff_,ff_,ff_,ff_,ff_,ff_,ff_,ff_] rfl rfl (by kernel_rfl) (fun _ _ _ h => h) (Or.inr ⟨by rfl, rfl⟩) ?_ ?_
     rotate_left
     ·simp only [Act.put, List.setIfInBounds_toArray, List.set_cons_zero, List.set_cons_succ, i64_w, i32_w]
      rfl
     refine pure_ (i := 18) (N := some 109) (v := undef) (a' := ?_) #[tt_,tt_,tt_,tt_,tt_,tt_,tt_,tt_,tt_,tt_,tt_,tt_,tt_,tt_,tt_,tt_,tt_,tt_,tt_,ff_,ff_,ff_,ff_,ff_,ff_,ff_,ff_,ff_,ff_,ff_,ff_,ff_,ff_,ff_,ff_,ff_,ff_,ff_,ff_,ff_,ff_,ff_,ff_] rfl rfl (by kernel_rfl) (fun _ _ _ h => h) (Or.inr ⟨by rfl, rfl⟩) ?_ ?_
     rotate_left
     ·simp only [Act.put, List.setIfInBounds_toArray, List.set_cons_zero, List.set_cons_succ, i64_w, i32_w]
      rfl
     refine pure_ (i := 19) (N := some 110) (v := undef) (a' := ?_) #[tt_,tt_,tt_,tt_,tt_,tt_,tt_,tt_,tt_,tt_,tt_,tt_,tt_,tt_,tt_,tt_,tt_,tt_,tt_,tt_,ff_,ff_,ff_,ff_,ff_,ff_,ff_,ff_,ff_,ff_,ff_,ff_,ff_,ff_,ff_,ff_,ff_,ff_,ff_,ff_,ff_,ff_,ff_] rfl rfl (by kernel_rfl) (fun _ _ _ h => h) (Or.inr ⟨by rfl, rfl⟩) ?_ ?_
     rotate_left
     ·simp only [Act.put, List.setIfInBounds_toArray, List.set_cons_zero, List.set_cons_succ, i64_w, i32_w]
      rfl
     refine pure_ (i := 20) (N := some 111) (v := ?_) (a' := ?_) #[tt_,tt_,tt_,tt_,tt_,tt_,tt_,tt_,tt_,tt_,tt_,tt_,tt_,tt_,tt_,tt_,tt_,tt_,tt_,tt_,tt_,ff_,ff_,ff_,ff_,ff_,ff_,ff_,ff_,ff_,ff_,ff_,ff_,ff_,ff_,ff_,ff_,ff_,ff_,ff_,ff_,ff_,ff_] rfl rfl (by kernel_rfl) (fun _ _ _ h => h) (Or.inl ⟨by rfl, ?_⟩) ?_ ?_
     rotate_left
     ·intro w'
      go_simp
      with_reducible rfl
     rotate_left
     ·simp only [Act.put, List.setIfInBounds_toArray, List.set_cons_zero, List.set_cons_succ, i64_w, i32_w]
      rfl
     refine pure_ (i := 21) (N := some 112) (v := ?_) (a' := ?_) #[tt_,tt_,tt_,tt_,tt_,tt_,tt_,tt_,tt_,tt_,tt_,tt_,tt_,tt_,tt_,tt_,tt_,tt_,tt_,tt_,tt_,tt_,ff_,ff_,ff_,ff_,ff_,ff_,ff_,ff_,ff_,ff_,ff_,ff_,ff_,ff_,ff_,ff_,ff_,ff_,ff_,ff_,ff_] rfl rfl (by kernel_rfl) (fun _ _ _ h => h) (Or.inl ⟨by rfl, ?_⟩) ?_ ?_
     rotate_left
     ·intro w'
      go_simp
      with_reducible rfl
     rotate_left
     ·simp only [Act.put, List.setIfInBounds_toArray, List.set_cons_zero, List.set_cons_succ, i64_w, i32_w]
      rfl
     refine pure_ (i := 22) (N := some 113) (v := ?_) (a' := ?_) #[tt_,tt_,tt_,tt_,tt_,tt_,tt_,tt_,tt_,tt_,tt_,tt_,tt_,tt_,tt_,tt_,tt_,tt_,tt_,tt_,tt_,tt_,tt_,ff_,ff_,ff_,ff_,ff_,ff_,ff_,ff_,ff_,ff_,ff_,ff_,ff_,ff_,ff_,ff_,ff_,ff_,ff_,ff_] rfl rfl (by kernel_rfl) (fun _ _ _ h => h) (Or.inl ⟨by rfl, ?_⟩) ?_ ?_
     rotate_left
     ·intro w'
      go_simp
      with_reducible rfl
     rotate_left
     ·simp only [Act.put, List.setIfInBounds_toArray, List.set_cons_zero, List.set_cons_succ, i64_w, i32_w]
      rfl
     refine pure_ (i := 23) (N := some 114) (v := ?_) (a' := ?_) #[tt_,tt_,tt_,tt_,tt_,tt_,tt_,tt_,tt_,tt_,tt_,tt_,tt_,tt_,tt_,tt_,tt_,tt_,tt_,tt_,tt_,tt_,tt_,tt_,ff_,ff_,ff_,ff_,ff_,ff_,ff_,ff_,ff_,ff_,ff_,ff_,ff_,ff_,ff_,ff_,ff_,ff_,ff_] rfl rfl (by kernel_rfl) (fun _ _ _ h => h) (Or.inl ⟨by rfl, ?_⟩) ?_ ?_
     rotate_left
     ·intro w'
      go_simp
      with_reducible rfl
     rotate_left
     ·simp only [Act.put, List.setIfInBounds_toArray, List.set_cons_zero, List.set_cons_succ, i64_w, i32_w]
      rfl
     refine take_ (i := 24) (N := some 115) (v := ?_) (a' := ?_) #[tt_,tt_,tt_,tt_,tt_,tt_,tt_,tt_,tt_,tt_,tt_,tt_,tt_,tt_,tt_,tt_,tt_,tt_,tt_,tt_,tt_,tt_,tt_,tt_,tt_,ff_,ff_,ff_,ff_,ff_,ff_,ff_,ff_,ff_,ff_,ff_,ff_,ff_,ff_,ff_,ff_,ff_,ff_] rfl rfl (by kernel_rfl) (fun _ _ _ h => h) (Or.inl ⟨by rfl, ?_⟩) hHeld ?_ ?_
     rotate_left
     ·rintro w' ⟨s0, s1, s2, s3⟩
      go_simp
      with_reducible rfl
     rotate_left
     ·simp only [Act.put, List.setIfInBounds_toArray, List.set_cons_zero, List.set_cons_succ, i64_w, i32_w]
      rfl
     refine pure_ (i := 25) (N := some 116) (v := ?_) (a' := ?_) #[tt_,tt_,tt_,tt_,tt_,tt_,tt_,tt_,tt_,tt_,tt_,tt_,tt_,tt_,tt_,tt_,tt_,tt_,tt_,tt_,tt_,tt_,tt_,tt_,tt_,tt_,ff_,ff_,ff_,ff_,ff_,ff_,ff_,ff_,ff_,ff_,ff_,ff_,ff_,ff_,ff_,ff_,ff_] rfl rfl (by kernel_rfl) (fun _ _ _ h => h) (Or.inl ⟨by rfl, ?_⟩) ?_ ?_
     rotate_left
     ·intro w'
      go_simp
      with_reducible rfl
     rotate_left
     ·simp only [Act.put, List.setIfInBounds_toArray, List.set_cons_zero, List.set_cons_succ, i64_w, i32_w]
      rfl
     refine pure_ (i := 26) (N := some 117) (v := ?_) (a' := ?_) #[tt_,tt_,tt_,tt_,tt_,tt_,tt_,tt_,tt_,tt_,tt_,tt_,tt_,tt_,tt_,tt_,tt_,tt_,tt_,tt_,tt_,tt_,tt_,tt_,tt_,tt_,tt_,ff_,ff_,ff_,ff_,ff_,ff_,ff_,ff_,ff_,ff_,ff_,ff_,ff_,ff_,ff_,ff_] rfl rfl (by kernel_rfl) (fun _ _ _ h => h) (Or.inl ⟨by rfl, ?_⟩) ?_ ?_
     rotate_left
     ·intro w'
      go_simp
      with_reducible rfl
     rotate_left
     ·simp only [Act.put, List.setIfInBounds_toArray, List.set_cons_zero, List.set_cons_succ, i64_w, i32_w]
      rfl
     refine pure_ (i := 27) (N := some 118) (v := ?_) (a' := ?_) #[tt_,tt_,tt_,tt_,tt_,tt_,tt_,tt_,tt_,tt_,tt_,tt_,tt_,tt_,tt_,tt_,tt_,tt_,tt_,tt_,tt_,tt_,tt_,tt_,tt_,tt_,tt_,tt_,ff_,ff_,ff_,ff_,ff_,ff_,ff_,ff_,ff_,ff_,ff_,ff_,ff_,ff_,ff_] rfl rfl (by kernel_rfl) (fun _ _ _ h => h) (Or.inl ⟨by rfl, ?_⟩) ?_ ?_
     rotate_left
     ·intro w'
      go_simp
      with_reducible rfl
     rotate_left
     ·simp only [Act.put, List.setIfInBounds_toArray, List.set_cons_zero, List.set_cons_succ, i64_w, i32_w]
      rfl
     refine pure_ (i := 29) (N := some 120) (v := ?_) (a' := ?_) #[tt_,tt_,tt_,tt_,tt_,tt_,tt_,tt_,tt_,tt_,tt_,tt_,tt_,tt_,tt_,tt_,tt_,tt_,tt_,tt_,tt_,tt_,tt_,tt_,tt_,tt_,tt_,tt_,ff_,tt_,ff_,ff_,ff_,ff_,ff_,ff_,ff_,ff_,ff_,ff_,ff_,ff_,ff_] rfl rfl (by kernel_rfl) (fun _ _ _ h => h) (Or.inl ⟨by rfl, ?_⟩) ?_ ?_
     rotate_left
     ·intro w'
      go_simp
      with_reducible rfl
     rotate_left
     ·simp only [Act.put, List.setIfInBounds_toArray, List.set_cons_zero, List.set_cons_succ, i64_w, i32_w]
      rfl
     refine take_ (i := 28) (N := some 119) (v := ?_) (a' := ?_) #[tt_,tt_,tt_,tt_,tt_,tt_,tt_,tt_,tt_,tt_,tt_,tt_,tt_,tt_,tt_,tt_,tt_,tt_,tt_,tt_,tt_,tt_,tt_,tt_,tt_,tt_,tt_,tt_,tt_,tt_,ff_,ff_,ff_,ff_,ff_,ff_,ff_,ff_,ff_,ff_,ff_,ff_,ff_] rfl rfl (by kernel_rfl) (fun _ _ _ h => h) (Or.inl ⟨by rfl, ?_⟩) hHeld ?_ ?_
     rotate_left
     ·rintro w' ⟨s0, s1, s2, s3⟩
      go_simp
      with_reducible rfl
     rotate_left
     ·simp only [Act.put, List.setIfInBounds_toArray, List.set_cons_zero, List.set_cons_succ, i64_w, i32_w]
      rfl
     refine pure_ (i := 30) (N := some 121) (v := ?_) (a' := ?_) #[tt_,tt_,tt_,tt_,tt_,tt_,tt_,tt_,tt_,tt_,tt_,tt_,tt_,tt_,tt_,tt_,tt_,tt_,tt_,tt_,tt_,tt_,tt_,tt_,tt_,tt_,tt_,tt_,tt_,tt_,tt_,ff_,ff_,ff_,ff_,ff_,ff_,ff_,ff_,ff_,ff_,ff_,ff_] rfl rfl (by kernel_rfl) (fun _ _ _ h => h) (Or.inl ⟨by rfl, ?_⟩) ?_ ?_
     rotate_left
     ·intro w'
      go_simp
      with_reducible rfl
     rotate_left
     ·simp only [Act.put, List.setIfInBounds_toArray, List.set_cons_zero, List.set_cons_succ, i64_w, i32_w]
      rfl
     refine pure_ (i := 31) (N := some 122) (v := ?_) (a' := ?_) #[tt_,tt_,tt_,tt_,tt_,tt_,tt_,tt_,tt_,tt_,tt_,tt_,tt_,tt_,tt_,tt_,tt_,tt_,tt_,tt_,tt_,tt_,tt_,tt_,tt_,tt_,tt_,tt_,tt_,tt_,tt_,tt_,ff_,ff_,ff_,ff_,ff_,ff_,ff_,ff_,ff_,ff_,ff_] rfl rfl (by kernel_rfl) (fun _ _ _ h => h) (Or.inl ⟨by rfl, ?_⟩) ?_ ?_
     rotate_left
     ·intro w'
      go_simp
      with_reducible rfl
     rotate_left
     ·simp only [Act.put, List.setIfInBounds_toArray, List.set_cons_zero, List.set_cons_succ, i64_w, i32_w]
      rfl
     refine pure_ (i := 32) (N := some 123) (v := ?_) (a' := ?_) #[tt_,tt_,tt_,tt_,tt_,tt_,tt_,tt_,tt_,tt_,tt_,tt_,tt_,tt_,tt_,tt_,tt_,tt_,tt_,tt_,tt_,tt_,tt_,tt_,tt_,tt_,tt_,tt_,tt_,tt_,tt_,tt_,tt_,ff_,ff_,ff_,ff_,ff_,ff_,ff_,ff_,ff_,ff_] rfl rfl (by kernel_rfl) (fun _ _ _ h => h) (Or.inl ⟨by rfl, ?_⟩) ?_ ?_
     rotate_left
     ·intro w'
      go_simp
      with_reducible rfl
     rotate_left
     ·simp only [Act.put, List.setIfInBounds_toArray, List.set_cons_zero, List.set_cons_succ, i64_w, i32_w]
      rfl
     refine pure_ (i := 33) (N := some 124) (v := ?_) (a' := ?_) #[tt_,tt_,tt_,tt_,tt_,tt_,tt_,tt_,tt_,tt_,tt_,tt_,tt_,tt_,tt_,tt_,tt_,tt_,tt_,tt_,tt_,tt_,tt_,tt_,tt_,tt_,tt_,tt_,tt_,tt_,tt_,tt_,tt_,tt_,ff_,ff_,ff_,ff_,ff_,ff_,ff_,ff_,ff_] rfl rfl (by kernel_rfl) (fun _ _ _ h => h) (Or.inl ⟨by rfl, ?_⟩) ?_ ?_
     rotate_left
     ·intro w'
      go_simp
      with_reducible rfl
     rotate_left
     ·simp only [Act.put, List.setIfInBounds_toArray, List.set_cons_zero, List.set_cons_succ, i64_w, i32_w]
      rfl
     refine pure_ (i := 34) (N := some 125) (v := ?_) (a' := ?_) #[tt_,tt_,tt_,tt_,tt_,tt_,tt_,tt_,tt_,tt_,tt_,tt_,tt_,tt_,tt_,tt_,tt_,tt_,tt_,tt_,tt_,tt_,tt_,tt_,tt_,tt_,tt_,tt_,tt_,tt_,tt_,tt_,tt_,tt_,tt_,ff_,ff_,ff_,ff_,ff_,ff_,ff_,ff_] rfl rfl (by kernel_rfl) (fun _ _ _ h => h) (Or.inl ⟨by rfl, ?_⟩) ?_ ?_
     rotate_left
     ·intro w'
      go_simp
      with_reducible rfl
     rotate_left
     ·simp only [Act.put, List.setIfInBounds_toArray, List.set_cons_zero, List.set_cons_succ, i64_w, i32_w]
      rfl
     refine pure_ (i := 35) (N := some 126) (v := ?_) (a' := ?_) #[tt_,tt_,tt_,tt_,tt_,tt_,tt_,tt_,tt_,tt_,tt_,tt_,tt_,tt_,tt_,tt_,tt_,tt_,tt_,tt_,tt_,tt_,tt_,tt_,tt_,tt_,tt_,tt_,tt_,tt_,tt_,tt_,tt_,tt_,tt_,tt_,ff_,ff_,ff_,ff_,ff_,ff_,ff_] rfl rfl (by kernel_rfl) (fun _ _ _ h => h) (Or.inl ⟨by rfl, ?_⟩) ?_ ?_
     rotate_left
     ·intro w'
      go_simp
      with_reducible rfl
     rotate_left
     ·simp only [Act.put, List.setIfInBounds_toArray, List.set_cons_zero, List.set_cons_succ, i64_w, i32_w]
      rfl
     refine pure_ (i := 36) (N := some 127) (v := ?_) (a' := ?_) #[tt_,tt_,tt_,tt_,tt_,tt_,tt_,tt_,tt_,tt_,tt_,tt_,tt_,tt_,tt_,tt_,tt_,tt_,tt_,tt_,tt_,tt_,tt_,tt_,tt_,tt_,tt_,tt_,tt_,tt_,tt_,tt_,tt_,tt_,tt_,tt_,tt_,ff_,ff_,ff_,ff_,ff_,ff_] rfl rfl (by kernel_rfl) (fun _ _ _ h => h) (Or.inl ⟨by rfl, ?_⟩) ?_ ?_
     rotate_left
     ·intro w'
      go_simp
      with_reducible rfl
     rotate_left
     ·simp only [Act.put, List.setIfInBounds_toArray, List.set_cons_zero, List.set_cons_succ, i64_w, i32_w]
      rfl
     refine pure_ (i := 37) (N := some 128) (v := ?_) (a' := ?_) #[tt_,tt_,tt_,tt_,tt_,tt_,tt_,tt_,tt_,tt_,tt_,tt_,tt_,tt_,tt_,tt_,tt_,tt_,tt_,tt_,tt_,tt_,tt_,tt_,tt_,tt_,tt_,tt_,tt_,tt_,tt_,tt_,tt_,tt_,tt_,tt_,tt_,tt_,ff_,ff_,ff_,ff_,ff_] rfl rfl (by kernel_rfl) (fun _ _ _ h => h) (Or.inl ⟨by rfl, ?_⟩) ?_ ?_
     rotate_left
     ·intro w'
      go_simp
      with_reducible rfl
     rotate_left
     ·simp only [Act.put, List.setIfInBounds_toArray, List.set_cons_zero, List.set_cons_succ, i64_w, i32_w]
      rfl
     refine take_ (i := 38) (N := some 129) (v := ?_) (a' := ?_) #[tt_,tt_,tt_,tt_,tt_,tt_,tt_,tt_,tt_,tt_,tt_,tt_,tt_,tt_,tt_,tt_,tt_,tt_,tt_,tt_,tt_,tt_,tt_,tt_,tt_,tt_,tt_,tt_,tt_,tt_,tt_,tt_,tt_,tt_,tt_,tt_,tt_,tt_,tt_,ff_,ff_,ff_,ff_] rfl rfl (by kernel_rfl) (fun _ _ _ h => h) (Or.inl ⟨by rfl, ?_⟩) hHeld ?_ ?_
     rotate_left
     ·rintro w' ⟨s0, s1, s2, s3⟩
      go_simp
      with_reducible rfl
     rotate_left
     ·simp only [Act.put, List.setIfInBounds_toArray, List.set_cons_zero, List.set_cons_succ, i64_w, i32_w]
      rfl
     refine take_ (i := 39) (N := some 130) (v := ?_) (a' := ?_) #[tt_,tt_,tt_,tt_,tt_,tt_,tt_,tt_,tt_,tt_,tt_,tt_,tt_,tt_,tt_,tt_,tt_,tt_,tt_,tt_,tt_,tt_,tt_,tt_,tt_,tt_,tt_,tt_,tt_,tt_,tt_,tt_,tt_,tt_,tt_,tt_,tt_,tt_,tt_,tt_,ff_,ff_,ff_] rfl rfl (by kernel_rfl) (fun _ _ _ h => h) (Or.inl ⟨by rfl, ?_⟩) hHeld ?_ ?_
     rotate_left
     ·rintro w' ⟨s0, s1, s2, s3⟩
      go_simp
      with_reducible rfl
     rotate_left
     ·simp only [Act.put, List.setIfInBounds_toArray, List.set_cons_zero, List.set_cons_succ, i64_w, i32_w]
      rfl
     refine one_ (i := 40) (N := some 131) #[tt_,tt_,tt_,tt_,tt_,tt_,tt_,tt_,tt_,tt_,tt_,tt_,tt_,tt_,tt_,tt_,tt_,tt_,tt_,tt_,tt_,tt_,tt_,tt_,tt_,tt_,tt_,tt_,tt_,tt_,tt_,tt_,tt_,tt_,tt_,tt_,tt_,tt_,tt_,tt_,tt_,ff_,ff_] rfl rfl (by kernel_rfl) (by decide) (fun K hK => ?_)
     refine goes_ Try.func28 (by kernel_rfl) rfl #[.pointer (some ⟨gc, 0, none⟩), .int .u32 (q : Int), .agg #[.int .u32 (pX : Int), .int .u32 (pB : Int), .bool false]] (by rfl) rfl rfl (by (try simp only [List.map_toArray, List.map_cons, List.map_nil]); rfl) ?_
     with_reducible refine (HK1.out _ B_5.out).mono ?_
     rintro e w6 ⟨rfl, hb⟩
     refine ⟨_, rfl, ?_⟩
     have B_6 := Aside0.mk (below_step B_5.out hb)
     have P_6 := Aside0.mk (blk_below P_5.out hb)
     clear P_5
     clear hb
     refine hK.out _ _ ⟨HCX.out _ B_6.out, (blk_cell P_6.out 0).trans rfl, (blk_cell P_6.out 1).trans rfl, (blk_cell P_6.out 2).trans rfl⟩ (fun hHeld => ?_)
     clear hK K
     refine norm_ (a' := ?_) ?_ ?_
     rotate_left
     ·show Act.put _ (some 131) _ = _
      simp only [Act.put, List.setIfInBounds_toArray, List.set_cons_zero, List.set_cons_succ, i64_w, i32_w]
      rfl
     refine pure_ (i := 41) (N := some 132) (v := ?_) (a' := ?_) #[tt_,tt_,tt_,tt_,tt_,tt_,tt_,tt_,tt_,tt_,tt_,tt_,tt_,tt_,tt_,tt_,tt_,tt_,tt_,tt_,tt_,tt_,tt_,tt_,tt_,tt_,tt_,tt_,tt_,tt_,tt_,tt_,tt_,tt_,tt_,tt_,tt_,tt_,tt_,tt_,tt_,tt_,ff_] rfl rfl (by kernel_rfl) (fun _ _ _ h => h) (Or.inl ⟨by rfl, ?_⟩) ?_ ?_
     rotate_left
     ·intro w'
      go_simp
      with_reducible rfl
     rotate_left
     ·simp only [Act.put, List.setIfInBounds_toArray, List.set_cons_zero, List.set_cons_succ, i64_w, i32_w]
      rfl
     refine pure_ (i := 42) (N := some 133) (v := ?_) (a' := ?_) #[tt_,tt_,tt_,tt_,tt_,tt_,tt_,tt_,tt_,tt_,tt_,tt_,tt_,tt_,tt_,tt_,tt_,tt_,tt_,tt_,tt_,tt_,tt_,tt_,tt_,tt_,tt_,tt_,tt_,tt_,tt_,tt_,tt_,tt_,tt_,tt_,tt_,tt_,tt_,tt_,tt_,tt_,tt_] rfl rfl (by kernel_rfl) (fun _ _ _ h => h) (Or.inl ⟨by rfl, ?_⟩) ?_ ?_
     rotate_left
     ·intro w'
      go_simp
      with_reducible rfl
     rotate_left
     ·simp only [Act.put, List.setIfInBounds_toArray, List.set_cons_zero, List.set_cons_succ, i64_w, i32_w]
      rfl
     refine done_ (by kernel_rfl) ?_
     go_wp2
     go_roundg (k - (i + 1))
     case measure => have := HIN.out; omega
     case rel => exact ⟨i + 1, by first | rfl | (congr 1; omega), HIN.out, by omega, ⟨below_step HB.out B_6.out⟩⟩
    case true =>
     obtain ⟨hB1, hB2, hB3⟩ := hBl rfl
     obtain ⟨z3, z4⟩ := lss_t (HRF.out.word _ hB1) HQ.out hB2 nq hB3
     have HPB := Aside0.mk hB1
     clear hP hno en hck hge hBl hHf nq nFX hPX hB1 hB2 hB3
     go_wp2_with (first | (go_at_call 27; (with_reducible refine (HL1.out _ B_0.out).mono ?_); rintro e w1 ⟨rfl, hb⟩; have B_1 := Aside0.mk (below_step B_0.out hb); clear hcx; clear hb) | ((with_reducible refine gate_dst (N := 11) rfl ?_); refine box_event ?hg (N := 11) ?hd (cs := #[.int .u32 0, .int .u32 0, .bool false]) (t := 32) ?hr ?_; (case hd => rfl); (case hg => rfl); (case hr => first | (go_simp; done) | (go_simp; rfl)); intro g11 hg_ w2 hm_ hb_; have GP := Aside0.mk (show wr.heap.size ≤ g11 by rw [hg_]; exact B_1.out.size); have B_2 := Aside0.mk (below_step B_1.out hb_); have P_2 := Aside0.mk (hm_); clear hm_ hb_ hg_) | ((with_reducible refine gate_store (p := 11) rfl ?_); refine store_event rfl rfl rfl g11 #[.int .u32 (pX : Int), .int .u32 (pB : Int), .bool true] _ 32 rfl rfl P_2.out size32 rfl (by simp [Value.oneCell']) ?_; intro w3 hm_ hst_ hbl_; have B_3 := Aside0.mk (B_2.out.trans (hbl_ _ GP.out)); have P_3 := Aside0.mk (hm_); clear P_2 hm_ hst_ hbl_; have hcx := HCX.out _ B_3.out) | ((with_reducible refine gate_dst (N := 73) rfl ?_); refine evg (by rfl) (.float .f32 q) ?hr ?_; (case hr => first | (go_simp; done) | (go_simp; rfl))))
     clear hcx
     have hk32 := Try.underlying32
     have B_4 : Aside0 (Below wr.heap.size wr w3.drew) := ⟨below_drew B_3.out⟩
     have P_4 := Aside0.mk (blk_drew P_3.out)
     clear B_3 P_3
     refine start_ (n := 43) (S := fun w' => w'.cell? (ay.add i) = some (.int .u32 (q : Int)) ∧ w'.cell? ⟨g11, 0, none⟩ = some (.int .u32 (pX : Int)) ∧ w'.cell? ⟨g11, 1, none⟩ = some (.int .u32 (pB : Int)) ∧ w'.cell? ⟨g11, 2, none⟩ = some (.bool true)) (ds := []) #[ff_,ff_,ff_,ff_,ff_,ff_,ff_,ff_,ff_,ff_,ff_,ff_,ff_,ff_,ff_,ff_,ff_,ff_,ff_,ff_,ff_,ff_,ff_,ff_,ff_,ff_,ff_,ff_,ff_,ff_,ff_,ff_,ff_,ff_,ff_,ff_,ff_,ff_,ff_,ff_,ff_,ff_,ff_] (by kernel_rfl) rfl rfl ⟨HCX.out _ B_4.out, (blk_cell P_4.out 0).trans rfl, (blk_cell P_4.out 1).trans rfl, (blk_cell P_4.out 2).trans rfl⟩ (fun hHeld => ?_)
     generalize w3.drew = w4 at *
     refine pure_ (i := 0) (N := some 91) (v := ?_) (a' := ?_) #[tt_,ff_,ff_,ff_,ff_,ff_,ff_,ff_,ff_,ff_,ff_,ff_,ff_,ff_,ff_,ff_,ff_,ff_,ff_,ff_,ff_,ff_,ff_,ff_,ff_,ff_,ff_,ff_,ff_,ff_,ff_,ff_,ff_,ff_,ff_,ff_,ff_,ff_,ff_,ff_,ff_,ff_,ff_] rfl rfl (by kernel_rfl) (fun _ _ _ h => h) (Or.inl ⟨by rfl, ?_⟩) ?_ ?_
     rotate_left
     ·intro w'
      go_simp
      with_reducible rfl
     rotate_left
     ·simp only [Act.put, List.setIfInBounds_toArray, List.set_cons_zero, List.set_cons_succ, i64_w, i32_w]
      rfl
     refine pure_ (i := 1) (N := some 92) (v := ?_) (a' := ?_) #[tt_,tt_,ff_,ff_,ff_,ff_,ff_,ff_,ff_,ff_,ff_,ff_,ff_,ff_,ff_,ff_,ff_,ff_,ff_,ff_,ff_,ff_,ff_,ff_,ff_,ff_,ff_,ff_,ff_,ff_,ff_,ff_,ff_,ff_,ff_,ff_,ff_,ff_,ff_,ff_,ff_,ff_,ff_] rfl rfl (by kernel_rfl) (fun _ _ _ h => h) (Or.inl ⟨by rfl, ?_⟩) ?_ ?_
     rotate_left
     ·intro w'
      go_simp
      with_reducible rfl
     rotate_left
     ·simp only [Act.put, List.setIfInBounds_toArray, List.set_cons_zero, List.set_cons_succ, i64_w, i32_w]
      rfl
     refine pure_ (i := 5) (N := some 96) (v := ?_) (a' := ?_) #[tt_,tt_,ff_,ff_,ff_,tt_,ff_,ff_,ff_,ff_,ff_,ff_,ff_,ff_,ff_,ff_,ff_,ff_,ff_,ff_,ff_,ff_,ff_,ff_,ff_,ff_,ff_,ff_,ff_,ff_,ff_,ff_,ff_,ff_,ff_,ff_,ff_,ff_,ff_,ff_,ff_,ff_,ff_] rfl rfl (by kernel_rfl) (fun _ _ _ h => h) (Or.inl ⟨by rfl, ?_⟩) ?_ ?_
     rotate_left
     ·intro w'
      go_simp
      with_reducible rfl
     rotate_left
     ·simp only [Act.put, List.setIfInBounds_toArray, List.set_cons_zero, List.set_cons_succ, i64_w, i32_w]
      rfl
     refine take_ (i := 2) (N := some 93) (v := ?_) (a' := ?_) #[tt_,tt_,tt_,ff_,ff_,tt_,ff_,ff_,ff_,ff_,ff_,ff_,ff_,ff_,ff_,ff_,ff_,ff_,ff_,ff_,ff_,ff_,ff_,ff_,ff_,ff_,ff_,ff_,ff_,ff_,ff_,ff_,ff_,ff_,ff_,ff_,ff_,ff_,ff_,ff_,ff_,ff_,ff_] rfl rfl (by kernel_rfl) (fun _ _ _ h => h) (Or.inl ⟨by rfl, ?_⟩) hHeld ?_ ?_
     rotate_left
     ·rintro w' ⟨s0, s1, s2, s3⟩
      go_simp
      with_reducible rfl
     rotate_left
     ·simp only [Act.put, List.setIfInBounds_toArray, List.set_cons_zero, List.set_cons_succ, i64_w, i32_w]
      rfl
     refine one_ (i := 3) (N := some 94) #[tt_,tt_,tt_,tt_,ff_,tt_,ff_,ff_,ff_,ff_,ff_,ff_,ff_,ff_,ff_,ff_,ff_,ff_,ff_,ff_,ff_,ff_,ff_,ff_,ff_,ff_,ff_,ff_,ff_,ff_,ff_,ff_,ff_,ff_,ff_,ff_,ff_,ff_,ff_,ff_,ff_,ff_,ff_] rfl rfl (by kernel_rfl) (by decide) (fun K hK => ?_)
     refine goes_ Try.func22 (by kernel_rfl) rfl #[.pointer (some ⟨gc, 0, none⟩), .int .u32 (pX : Int)] (by rfl) rfl rfl (by (try simp only [List.map_toArray, List.map_cons, List.map_nil]); rfl) ?_
     with_reducible refine (HA1.out _ pX HPX.out B_4.out).mono ?_
     rintro e w5 ⟨rfl, hb⟩
     refine ⟨_, rfl, ?_⟩
     have B_5 := Aside0.mk (below_step B_4.out hb)
     have P_5 := Aside0.mk (blk_below P_4.out hb)
     clear P_4
     clear hb
     refine hK.out _ _ ⟨HCX.out _ B_5.out, (blk_cell P_5.out 0).trans rfl, (blk_cell P_5.out 1).trans rfl, (blk_cell P_5.out 2).trans rfl⟩ (fun hHeld => ?_)
     clear hK K
     refine norm_ (a' := ?_) ?_ ?_
     rotate_left
     ·show Act.put _ (some 94) _ = _
      simp only [Act.put, List.setIfInBounds_toArray, List.set_cons_zero, List.set_cons_succ, i64_w, i32_w]
      rfl
     refine one_ (i := 4) (N := some 95) #[tt_,tt_,tt_,tt_,tt_,tt_,ff_,ff_,ff_,ff_,ff_,ff_,ff_,ff_,ff_,ff_,ff_,ff_,ff_,ff_,ff_,ff_,ff_,ff_,ff_,ff_,ff_,ff_,ff_,ff_,ff_,ff_,ff_,ff_,ff_,ff_,ff_,ff_,ff_,ff_,ff_,ff_,ff_] rfl rfl (by kernel_rfl) (by decide) (fun K hK => ?_)
     refine value_ (w1 := w5) (v := .float .f32 (F pX)) (by rfl) rfl ?_ ?_
     ·first | (go_simp; done) | (go_simp; rfl)
     refine hK.out _ _ ⟨HCX.out _ B_5.out, (blk_cell P_5.out 0).trans rfl, (blk_cell P_5.out 1).trans rfl, (blk_cell P_5.out 2).trans rfl⟩ (fun hHeld => ?_)
     clear hK K
     refine norm_ (a' := ?_) ?_ ?_
     rotate_left
     ·show Act.put _ (some 95) _ = _
      simp only [Act.put, List.setIfInBounds_toArray, List.set_cons_zero, List.set_cons_succ, i64_w, i32_w]
      rfl
     refine pure_ (i := 6) (N := some 97) (v := ?_) (a' := ?_) #[tt_,tt_,tt_,tt_,tt_,tt_,tt_,ff_,ff_,ff_,ff_,ff_,ff_,ff_,ff_,ff_,ff_,ff_,ff_,ff_,ff_,ff_,ff_,ff_,ff_,ff_,ff_,ff_,ff_,ff_,ff_,ff_,ff_,ff_,ff_,ff_,ff_,ff_,ff_,ff_,ff_,ff_,ff_] rfl rfl (by kernel_rfl) (fun _ _ _ h => h) (Or.inl ⟨by rfl, ?_⟩) ?_ ?_
     rotate_left
     ·intro w'
      go_simp
      with_reducible rfl
     rotate_left
     ·simp only [Act.put, List.setIfInBounds_toArray, List.set_cons_zero, List.set_cons_succ, i64_w, i32_w]
      rfl
     refine pure_ (i := 7) (N := some 98) (v := ?_) (a' := ?_) #[tt_,tt_,tt_,tt_,tt_,tt_,tt_,tt_,ff_,ff_,ff_,ff_,ff_,ff_,ff_,ff_,ff_,ff_,ff_,ff_,ff_,ff_,ff_,ff_,ff_,ff_,ff_,ff_,ff_,ff_,ff_,ff_,ff_,ff_,ff_,ff_,ff_,ff_,ff_,ff_,ff_,ff_,ff_] rfl rfl (by kernel_rfl) (fun _ _ _ h => h) (Or.inl ⟨by rfl, ?_⟩) ?_ ?_
     rotate_left
     ·intro w'
      go_simp
      with_reducible rfl
     rotate_left
     ·simp only [Act.put, List.setIfInBounds_toArray, List.set_cons_zero, List.set_cons_succ, i64_w, i32_w]
      rfl
     refine pure_ (i := 8) (N := some 99) (v := ?_) (a' := ?_) #[tt_,tt_,tt_,tt_,tt_,tt_,tt_,tt_,tt_,ff_,ff_,ff_,ff_,ff_,ff_,ff_,ff_,ff_,ff_,ff_,ff_,ff_,ff_,ff_,ff_,ff_,ff_,ff_,ff_,ff_,ff_,ff_,ff_,ff_,ff_,ff_,ff_,ff_,ff_,ff_,ff_,ff_,ff_] rfl rfl (by kernel_rfl) (fun _ _ _ h => h) (Or.inl ⟨by rfl, ?_⟩) ?_ ?_
     rotate_left
     ·intro w'
      go_simp
      with_reducible rfl
     rotate_left
     ·simp only [Act.put, List.setIfInBounds_toArray, List.set_cons_zero, List.set_cons_succ, i64_w, i32_w]
      rfl
     refine pure_ (i := 9) (N := some 100) (v := ?_) (a' := ?_) #[tt_,tt_,tt_,tt_,tt_,tt_,tt_,tt_,tt_,tt_,ff_,ff_,ff_,ff_,ff_,ff_,ff_,ff_,ff_,ff_,ff_,ff_,ff_,ff_,ff_,ff_,ff_,ff_,ff_,ff_,ff_,ff_,ff_,ff_,ff_,ff_,ff_,ff_,ff_,ff_,ff_,ff_,ff_] rfl rfl (by kernel_rfl) (fun _ _ _ h => h) (Or.inl ⟨by rfl, ?_⟩) ?_ ?_
     rotate_left
     ·intro w'
      go_simp
      with_reducible rfl
     rotate_left
     ·simp only [Act.put, List.setIfInBounds_toArray, List.set_cons_zero, List.set_cons_succ, i64_w, i32_w]
      rfl
     refine take_ (i := 10) (N := some 101) (v := ?_) (a' := ?_) #[tt_,tt_,tt_,tt_,tt_,tt_,tt_,tt_,tt_,tt_,tt_,ff_,ff_,ff_,ff_,ff_,ff_,ff_,ff_,ff_,ff_,ff_,ff_,ff_,ff_,ff_,ff_,ff_,ff_,ff_,ff_,ff_,ff_,ff_,ff_,ff_,ff_,ff_,ff_,ff_,ff_,ff_,ff_] rfl rfl (by kernel_rfl) (fun _ _ _ h => h) (Or.inl ⟨by rfl, ?_⟩) hHeld ?_ ?_
     rotate_left
     ·rintro w' ⟨s0, s1, s2, s3⟩
      go_simp
      with_reducible rfl
     rotate_left
     ·simp only [Act.put, List.setIfInBounds_toArray, List.set_cons_zero, List.set_cons_succ, i64_w, i32_w]
      rfl
     refine pure_ (i := 11) (N := some 102) (v := ?_) (a' := ?_) #[tt_,tt_,tt_,tt_,tt_,tt_,tt_,tt_,tt_,tt_,tt_,tt_,ff_,ff_,ff_,ff_,ff_,ff_,ff_,ff_,ff_,ff_,ff_,ff_,ff_,ff_,ff_,ff_,ff_,ff_,ff_,ff_,ff_,ff_,ff_,ff_,ff_,ff_,ff_,ff_,ff_,ff_,ff_] rfl rfl (by kernel_rfl) (fun _ _ _ h => h) (Or.inl ⟨by rfl, ?_⟩) ?_ ?_
     rotate_left
     ·intro w'
      go_simp
      with_reducible rfl
     rotate_left
     ·simp only [Act.put, List.setIfInBounds_toArray, List.set_cons_zero, List.set_cons_succ, i64_w, i32_w]
      rfl
     refine pure_ (i := 12) (N := some 103) (v := ?_) (a' := ?_) #[tt_,tt_,tt_,tt_,tt_,tt_,tt_,tt_,tt_,tt_,tt_,tt_,tt_,ff_,ff_,ff_,ff_,ff_,ff_,ff_,ff_,ff_,ff_,ff_,ff_,ff_,ff_,ff_,ff_,ff_,ff_,ff_,ff_,ff_,ff_,ff_,ff_,ff_,ff_,ff_,ff_,ff_,ff_] rfl rfl (by kernel_rfl) (fun _ _ _ h => h) (Or.inl ⟨by rfl, ?_⟩) ?_ ?_
     rotate_left
     ·intro w'
      go_simp
      with_reducible rfl
     rotate_left
     ·simp only [Act.put, List.setIfInBounds_toArray, List.set_cons_zero, List.set_cons_succ, i64_w, i32_w]
      rfl
     refine pure_ (i := 13) (N := some 104) (v := ?_) (a' := ?_) #[tt_,tt_,tt_,tt_,tt_,tt_,tt_,tt_,tt_,tt_,tt_,tt_,tt_,tt_,ff_,ff_,ff_,ff_,ff_,ff_,ff_,ff_,ff_,ff_,ff_,ff_,ff_,ff_,ff_,ff_,ff_,ff_,ff_,ff_,ff_,ff_,ff_,ff_,ff_,ff_,ff_,ff_,ff_] rfl rfl (by kernel_rfl) (fun _ _ _ h => h) (Or.inl ⟨by rfl, ?_⟩) ?_ ?_
     rotate_left
     ·intro w'
      go_simp
      with_reducible rfl
     rotate_left
     ·simp only [Act.put, List.setIfInBounds_toArray, List.set_cons_zero, List.set_cons_succ, i64_w, i32_w]
      rfl
     refine pure_ (i := 17) (N := some 108) (v := ?_) (a' := ?_) #[tt_,tt_,tt_,tt_,tt_,tt_,tt_,tt_,tt_,tt_,tt_,tt_,tt_,tt_,ff_,ff_,ff_,tt_,ff_,ff_,ff_,ff_,ff_,ff_,ff_,ff_,ff_,ff_,ff_,ff_,ff_,ff_,ff_,ff_,ff_,ff_,ff_,ff_,ff_,ff_,ff_,ff_,ff_] rfl rfl (by kernel_rfl) (fun _ _ _ h => h) (Or.inl ⟨by rfl, ?_⟩) ?_ ?_
     rotate_left
     ·intro w'
      go_simp
      with_reducible rfl
     rotate_left
     ·simp only [Act.put, List.setIfInBounds_toArray, List.set_cons_zero, List.set_cons_succ, i64_w, i32_w]
      rfl
     refine take_ (i := 14) (N := some 105) (v := ?_) (a' := ?_) #[tt_,tt_,tt_,tt_,tt_,tt_,tt_,tt_,tt_,tt_,tt_,tt_,tt_,tt_,tt_,ff_,ff_,tt_,ff_,ff_,ff_,ff_,ff_,ff_,ff_,ff_,ff_,ff_,ff_,ff_,ff_,ff_,ff_,ff_,ff_,ff_,ff_,ff_,ff_,ff_,ff_,ff_,ff_] rfl rfl (by kernel_rfl) (fun _ _ _ h => h) (Or.inl ⟨by rfl, ?_⟩) hHeld ?_ ?_
     rotate_left
     ·rintro w' ⟨s0, s1, s2, s3⟩
      go_simp
      with_reducible rfl
     rotate_left
     ·simp only [Act.put, List.setIfInBounds_toArray, List.set_cons_zero, List.set_cons_succ, i64_w, i32_w]
      rfl
     refine one_ (i := 15) (N := some 106) #[tt_,tt_,tt_,tt_,tt_,tt_,tt_,tt_,tt_,tt_,tt_,tt_,tt_,tt_,tt_,tt_,ff_,tt_,ff_,ff_,ff_,ff_,ff_,ff_,ff_,ff_,ff_,ff_,ff_,ff_,ff_,ff_,ff_,ff_,ff_,ff_,ff_,ff_,ff_,ff_,ff_,ff_,ff_] rfl rfl (by kernel_rfl) (by decide) (fun K hK => ?_)
     refine goes_ Try.func22 (by kernel_rfl) rfl #[.pointer (some ⟨gc, 0, none⟩), .int .u32 (pB : Int)] (by rfl) rfl rfl (by (try simp only [List.map_toArray, List.map_cons, List.map_nil]); rfl) ?_
     with_reducible refine (HA1.out _ pB HPB.out B_5.out).mono ?_
     rintro e w6 ⟨rfl, hb⟩
     refine ⟨_, rfl, ?_⟩
     have B_6 := Aside0.mk (below_step B_5.out hb)
     have P_6 := Aside0.mk (blk_below P_5.out hb)
     clear P_5
     clear hb
     refine hK.out _ _ ⟨HCX.out _ B_6.out, (blk_cell P_6.out 0).trans rfl, (blk_cell P_6.out 1).trans rfl, (blk_cell P_6.out 2).trans rfl⟩ (fun hHeld => ?_)
     clear hK K
     refine norm_ (a' := ?_) ?_ ?_
     rotate_left
     ·show Act.put _ (some 106) _ = _
      simp only [Act.put, List.setIfInBounds_toArray, List.set_cons_zero, List.set_cons_succ, i64_w, i32_w]
      rfl
     refine one_ (i := 16) (N := some 107) #[tt_,tt_,tt_,tt_,tt_,tt_,tt_,tt_,tt_,tt_,tt_,tt_,tt_,tt_,tt_,tt_,tt_,tt_,ff_,ff_,ff_,ff_,ff_,ff_,ff_,ff_,ff_,ff_,ff_,ff_,ff_,ff_,ff_,ff_,ff_,ff_,ff_,ff_,ff_,ff_,ff_,ff_,ff_] rfl rfl (by kernel_rfl) (by decide) (fun K hK => ?_)
     refine value_ (w1 := w6) (v := .float .f32 (F pB)) (by rfl) rfl ?_ ?_
     ·first | (go_simp; done) | (go_simp; rfl)
     refine hK.out _ _ ⟨HCX.out _ B_6.out, (blk_cell P_6.out 0).trans rfl, (blk_cell P_6.out 1).trans rfl, (blk_cell P_6.out 2).trans rfl⟩ (fun hHeld => ?_)
     clear hK K
     refine norm_ (a' := ?_) ?_ ?_
     rotate_left
     ·show Act.put _ (some 107) _ = _
      simp only [Act.put, List.setIfInBounds_toArray, List.set_cons_zero, List.set_cons_succ, i64_w, i32_w]
      rfl
     refine pure_ (i := 18) (N := some 109) (v := ?_) (a' := ?_) #[tt_,tt_,tt_,tt_,tt_,tt_,tt_,tt_,tt_,tt_,tt_,tt_,tt_,tt_,tt_,tt_,tt_,tt_,tt_,ff_,ff_,ff_,ff_,ff_,ff_,ff_,ff_,ff_,ff_,ff_,ff_,ff_,ff_,ff_,ff_,ff_,ff_,ff_,ff_,ff_,ff_,ff_,ff_] rfl rfl (by kernel_rfl) (fun _ _ _ h => h) (Or.inl ⟨by rfl, ?_⟩) ?_ ?_
     rotate_left
     ·intro w'
      go_simp
      with_reducible rfl
     rotate_left
     ·simp only [Act.put, List.setIfInBounds_toArray, List.set_cons_zero, List.set_cons_succ, i64_w, i32_w]
      rfl
     refine pure_ (i := 19) (N := some 110) (v := ?_) (a' := ?_) #[tt_,tt_,tt_,tt_,tt_,tt_,tt_,tt_,tt_,tt_,tt_,tt_,tt_,tt_,tt_,tt_,tt_,tt_,tt_,tt_,ff_,ff_,ff_,ff_,ff_,ff_,ff_,ff_,ff_,ff_,ff_,ff_,ff_,ff_,ff_,ff_,ff_,ff_,ff_,ff_,ff_,ff_,ff_] rfl rfl (by kernel_rfl) (fun _ _ _ h => h) (Or.inl ⟨by rfl, ?_⟩) ?_ ?_
     rotate_left
     ·intro w'
      go_simp
      with_reducible rfl
     rotate_left
     ·simp only [Act.put, List.setIfInBounds_toArray, List.set_cons_zero, List.set_cons_succ, i64_w, i32_w]
      rfl
     refine pure_ (i := 20) (N := some 111) (v := ?_) (a' := ?_) #[tt_,tt_,tt_,tt_,tt_,tt_,tt_,tt_,tt_,tt_,tt_,tt_,tt_,tt_,tt_,tt_,tt_,tt_,tt_,tt_,tt_,ff_,ff_,ff_,ff_,ff_,ff_,ff_,ff_,ff_,ff_,ff_,ff_,ff_,ff_,ff_,ff_,ff_,ff_,ff_,ff_,ff_,ff_] rfl rfl (by kernel_rfl) (fun _ _ _ h => h) (Or.inl ⟨by rfl, ?_⟩) ?_ ?_
     rotate_left
     ·intro w'
      go_simp
      with_reducible rfl
     rotate_left
     ·simp only [Act.put, List.setIfInBounds_toArray, List.set_cons_zero, List.set_cons_succ, i64_w, i32_w]
      rfl
     refine pure_ (i := 21) (N := some 112) (v := ?_) (a' := ?_) #[tt_,tt_,tt_,tt_,tt_,tt_,tt_,tt_,tt_,tt_,tt_,tt_,tt_,tt_,tt_,tt_,tt_,tt_,tt_,tt_,tt_,tt_,ff_,ff_,ff_,ff_,ff_,ff_,ff_,ff_,ff_,ff_,ff_,ff_,ff_,ff_,ff_,ff_,ff_,ff_,ff_,ff_,ff_] rfl rfl (by kernel_rfl) (fun _ _ _ h => h) (Or.inl ⟨by rfl, ?_⟩) ?_ ?_
     rotate_left
     ·intro w'
      go_simp
      with_reducible rfl
     rotate_left
     ·simp only [Act.put, List.setIfInBounds_toArray, List.set_cons_zero, List.set_cons_succ, i64_w, i32_w]
      rfl
     refine pure_ (i := 22) (N := some 113) (v := ?_) (a' := ?_) #[tt_,tt_,tt_,tt_,tt_,tt_,tt_,tt_,tt_,tt_,tt_,tt_,tt_,tt_,tt_,tt_,tt_,tt_,tt_,tt_,tt_,tt_,tt_,ff_,ff_,ff_,ff_,ff_,ff_,ff_,ff_,ff_,ff_,ff_,ff_,ff_,ff_,ff_,ff_,ff_,ff_,ff_,ff_] rfl rfl (by kernel_rfl) (fun _ _ _ h => h) (Or.inl ⟨by rfl, ?_⟩) ?_ ?_
     rotate_left
     ·intro w'
      go_simp
      with_reducible rfl
     rotate_left
     ·simp only [Act.put, List.setIfInBounds_toArray, List.set_cons_zero, List.set_cons_succ, i64_w, i32_w]
      rfl
     refine pure_ (i := 23) (N := some 114) (v := ?_) (a' := ?_) #[tt_,tt_,tt_,tt_,tt_,tt_,tt_,tt_,tt_,tt_,tt_,tt_,tt_,tt_,tt_,tt_,tt_,tt_,tt_,tt_,tt_,tt_,tt_,tt_,ff_,ff_,ff_,ff_,ff_,ff_,ff_,ff_,ff_,ff_,ff_,ff_,ff_,ff_,ff_,ff_,ff_,ff_,ff_] rfl rfl (by kernel_rfl) (fun _ _ _ h => h) (Or.inl ⟨by rfl, ?_⟩) ?_ ?_
     rotate_left
     ·intro w'
      go_simp
      with_reducible rfl
     rotate_left
     ·simp only [Act.put, List.setIfInBounds_toArray, List.set_cons_zero, List.set_cons_succ, i64_w, i32_w]
      rfl
     refine take_ (i := 24) (N := some 115) (v := ?_) (a' := ?_) #[tt_,tt_,tt_,tt_,tt_,tt_,tt_,tt_,tt_,tt_,tt_,tt_,tt_,tt_,tt_,tt_,tt_,tt_,tt_,tt_,tt_,tt_,tt_,tt_,tt_,ff_,ff_,ff_,ff_,ff_,ff_,ff_,ff_,ff_,ff_,ff_,ff_,ff_,ff_,ff_,ff_,ff_,ff_] rfl rfl (by kernel_rfl) (fun _ _ _ h => h) (Or.inl ⟨by rfl, ?_⟩) hHeld ?_ ?_
     rotate_left
     ·rintro w' ⟨s0, s1, s2, s3⟩
      go_simp
      with_reducible rfl
     rotate_left
     ·simp only [Act.put, List.setIfInBounds_toArray, List.set_cons_zero, List.set_cons_succ, i64_w, i32_w]
      rfl
     refine pure_ (i := 25) (N := some 116) (v := ?_) (a' := ?_) #[tt_,tt_,tt_,tt_,tt_,tt_,tt_,tt_,tt_,tt_,tt_,tt_,tt_,tt_,tt_,tt_,tt_,tt_,tt_,tt_,tt_,tt_,tt_,tt_,tt_,tt_,ff_,ff_,ff_,ff_,ff_,ff_,ff_,ff_,ff_,ff_,ff_,ff_,ff_,ff_,ff_,ff_,ff_] rfl rfl (by kernel_rfl) (fun _ _ _ h => h) (Or.inl ⟨by rfl, ?_⟩) ?_ ?_
     rotate_left
     ·intro w'
      go_simp
      with_reducible rfl
     rotate_left
     ·simp only [Act.put, List.setIfInBounds_toArray, List.set_cons_zero, List.set_cons_succ, i64_w, i32_w]
      rfl
     refine pure_ (i := 26) (N := some 117) (v := ?_) (a' := ?_) #[tt_,tt_,tt_,tt_,tt_,tt_,tt_,tt_,tt_,tt_,tt_,tt_,tt_,tt_,tt_,tt_,tt_,tt_,tt_,tt_,tt_,tt_,tt_,tt_,tt_,tt_,tt_,ff_,ff_,ff_,ff_,ff_,ff_,ff_,ff_,ff_,ff_,ff_,ff_,ff_,ff_,ff_,ff_] rfl rfl (by kernel_rfl) (fun _ _ _ h => h) (Or.inl ⟨by rfl, ?_⟩) ?_ ?_
     rotate_left
     ·intro w'
      go_simp
      with_reducible rfl
     rotate_left
     ·simp only [Act.put, List.setIfInBounds_toArray, List.set_cons_zero, List.set_cons_succ, i64_w, i32_w]
      rfl
     refine pure_ (i := 27) (N := some 118) (v := undef) (a' := ?_) #[tt_,tt_,tt_,tt_,tt_,tt_,tt_,tt_,tt_,tt_,tt_,tt_,tt_,tt_,tt_,tt_,tt_,tt_,tt_,tt_,tt_,tt_,tt_,tt_,tt_,tt_,tt_,tt_,ff_,ff_,ff_,ff_,ff_,ff_,ff_,ff_,ff_,ff_,ff_,ff_,ff_,ff_,ff_] rfl rfl (by kernel_rfl) (fun _ _ _ h => h) (Or.inr ⟨by rfl, rfl⟩) ?_ ?_
     rotate_left
     ·simp only [Act.put, List.setIfInBounds_toArray, List.set_cons_zero, List.set_cons_succ, i64_w, i32_w]
      rfl
     refine pure_ (i := 28) (N := some 119) (v := undef) (a' := ?_) #[tt_,tt_,tt_,tt_,tt_,tt_,tt_,tt_,tt_,tt_,tt_,tt_,tt_,tt_,tt_,tt_,tt_,tt_,tt_,tt_,tt_,tt_,tt_,tt_,tt_,tt_,tt_,tt_,tt_,ff_,ff_,ff_,ff_,ff_,ff_,ff_,ff_,ff_,ff_,ff_,ff_,ff_,ff_] rfl rfl (by kernel_rfl) (fun _ _ _ h => h) (Or.inr ⟨by rfl, rfl⟩) ?_ ?_
     rotate_left
     ·simp only [Act.put, List.setIfInBounds_toArray, List.set_cons_zero, List.set_cons_succ, i64_w, i32_w]
      rfl
     refine pure_ (i := 29) (N := some 120) (v := undef) (a' := ?_) #[tt_,tt_,tt_,tt_,tt_,tt_,tt_,tt_,tt_,tt_,tt_,tt_,tt_,tt_,tt_,tt_,tt_,tt_,tt_,tt_,tt_,tt_,tt_,tt_,tt_,tt_,tt_,tt_,tt_,tt_,ff_,ff_,ff_,ff_,ff_,ff_,ff_,ff_,ff_,ff_,ff_,ff_,ff_] rfl rfl (by kernel_rfl) (fun _ _ _ h => h) (Or.inr ⟨by rfl, rfl⟩) ?_ ?_
     rotate_left
     ·simp only [Act.put, List.setIfInBounds_toArray, List.set_cons_zero, List.set_cons_succ, i64_w, i32_w]
      rfl
     refine pure_ (i := 30) (N := some 121) (v := undef) (a' := ?_) #[tt_,tt_,tt_,tt_,tt_,tt_,tt_,tt_,tt_,tt_,tt_,tt_,tt_,tt_,tt_,tt_,tt_,tt_,tt_,tt_,tt_,tt_,tt_,tt_,tt_,tt_,tt_,tt_,tt_,tt_,tt_,ff_,ff_,ff_,ff_,ff_,ff_,ff_,ff_,ff_,ff_,ff_,ff_] rfl rfl (by kernel_rfl) (fun _ _ _ h => h) (Or.inr ⟨by rfl, rfl⟩) ?_ ?_
     rotate_left
     ·simp only [Act.put, List.setIfInBounds_toArray, List.set_cons_zero, List.set_cons_succ, i64_w, i32_w]
      rfl
     refine pure_ (i := 31) (N := some 122) (v := ?_) (a' := ?_) #[tt_,tt_,tt_,tt_,tt_,tt_,tt_,tt_,tt_,tt_,tt_,tt_,tt_,tt_,tt_,tt_,tt_,tt_,tt_,tt_,tt_,tt_,tt_,tt_,tt_,tt_,tt_,tt_,tt_,tt_,tt_,tt_,ff_,ff_,ff_,ff_,ff_,ff_,ff_,ff_,ff_,ff_,ff_] rfl rfl (by kernel_rfl) (fun _ _ _ h => h) (Or.inl ⟨by rfl, ?_⟩) ?_ ?_
     rotate_left
     ·intro w'
      go_simp
      with_reducible rfl
     rotate_left
     ·simp only [Act.put, List.setIfInBounds_toArray, List.set_cons_zero, List.set_cons_succ, i64_w, i32_w]
      rfl
     refine pure_ (i := 32) (N := some 123) (v := ?_) (a' := ?_) #[tt_,tt_,tt_,tt_,tt_,tt_,tt_,tt_,tt_,tt_,tt_,tt_,tt_,tt_,tt_,tt_,tt_,tt_,tt_,tt_,tt_,tt_,tt_,tt_,tt_,tt_,tt_,tt_,tt_,tt_,tt_,tt_,tt_,ff_,ff_,ff_,ff_,ff_,ff_,ff_,ff_,ff_,ff_] rfl rfl (by kernel_rfl) (fun _ _ _ h => h) (Or.inl ⟨by rfl, ?_⟩) ?_ ?_
     rotate_left
     ·intro w'
      go_simp
      with_reducible rfl
     rotate_left
     ·simp only [Act.put, List.setIfInBounds_toArray, List.set_cons_zero, List.set_cons_succ, i64_w, i32_w]
      rfl
     refine pure_ (i := 33) (N := some 124) (v := ?_) (a' := ?_) #[tt_,tt_,tt_,tt_,tt_,tt_,tt_,tt_,tt_,tt_,tt_,tt_,tt_,tt_,tt_,tt_,tt_,tt_,tt_,tt_,tt_,tt_,tt_,tt_,tt_,tt_,tt_,tt_,tt_,tt_,tt_,tt_,tt_,tt_,ff_,ff_,ff_,ff_,ff_,ff_,ff_,ff_,ff_] rfl rfl (by kernel_rfl) (fun _ _ _ h => h) (Or.inl ⟨by rfl, ?_⟩) ?_ ?_
     rotate_left
     ·intro w'
      go_simp
      with_reducible rfl
     rotate_left
     ·simp only [Act.put, List.setIfInBounds_toArray, List.set_cons_zero, List.set_cons_succ, i64_w, i32_w]
      rfl
     refine pure_ (i := 34) (N := some 125) (v := ?_) (a' := ?_) #[tt_,tt_,tt_,tt_,tt_,tt_,tt_,tt_,tt_,tt_,tt_,tt_,tt_,tt_,tt_,tt_,tt_,tt_,tt_,tt_,tt_,tt_,tt_,tt_,tt_,tt_,tt_,tt_,tt_,tt_,tt_,tt_,tt_,tt_,tt_,ff_,ff_,ff_,ff_,ff_,ff_,ff_,ff_] rfl rfl (by kernel_rfl) (fun _ _ _ h => h) (Or.inl ⟨by rfl, ?_⟩) ?_ ?_
     rotate_left
     ·intro w'
      go_simp
      with_reducible rfl
     rotate_left
     ·simp only [Act.put, List.setIfInBounds_toArray, List.set_cons_zero, List.set_cons_succ, i64_w, i32_w]
      rfl
     refine pure_ (i := 35) (N := some 126) (v := ?_) (a' := ?_) #[tt_,tt_,tt_,tt_,tt_,tt_,tt_,tt_,tt_,tt_,tt_,tt_,tt_,tt_,tt_,tt_,tt_,tt_,tt_,tt_,tt_,tt_,tt_,tt_,tt_,tt_,tt_,tt_,tt_,tt_,tt_,tt_,tt_,tt_,tt_,tt_,ff_,ff_,ff_,ff_,ff_,ff_,ff_] rfl rfl (by kernel_rfl) (fun _ _ _ h => h) (Or.inl ⟨by rfl, ?_⟩) ?_ ?_
     rotate_left
     ·intro w'
      go_simp
      with_reducible rfl
     rotate_left
     ·simp only [Act.put, List.setIfInBounds_toArray, List.set_cons_zero, List.set_cons_succ, i64_w, i32_w]
      rfl
     refine pure_ (i := 36) (N := some 127) (v := ?_) (a' := ?_) #[tt_,tt_,tt_,tt_,tt_,tt_,tt_,tt_,tt_,tt_,tt_,tt_,tt_,tt_,tt_,tt_,tt_,tt_,tt_,tt_,tt_,tt_,tt_,tt_,tt_,tt_,tt_,tt_,tt_,tt_,tt_,tt_,tt_,tt_,tt_,tt_,tt_,ff_,ff_,ff_,ff_,ff_,ff_] rfl rfl (by kernel_rfl) (fun _ _ _ h => h) (Or.inl ⟨by rfl, ?_⟩) ?_ ?_
     rotate_left
     ·intro w'
      go_simp
      with_reducible rfl
     rotate_left
     ·simp only [Act.put, List.setIfInBounds_toArray, List.set_cons_zero, List.set_cons_succ, i64_w, i32_w]
      rfl
     refine pure_ (i := 37) (N := some 128) (v := ?_) (a' := ?_) #[tt_,tt_,tt_,tt_,tt_,tt_,tt_,tt_,tt_,tt_,tt_,tt_,tt_,tt_,tt_,tt_,tt_,tt_,tt_,tt_,tt_,tt_,tt_,tt_,tt_,tt_,tt_,tt_,tt_,tt_,tt_,tt_,tt_,tt_,tt_,tt_,tt_,tt_,ff_,ff_,ff_,ff_,ff_] rfl rfl (by kernel_rfl) (fun _ _ _ h => h) (Or.inl ⟨by rfl, ?_⟩) ?_ ?_
     rotate_left
     ·intro w'
      go_simp
      with_reducible rfl
     rotate_left
     ·simp only [Act.put, List.setIfInBounds_toArray, List.set_cons_zero, List.set_cons_succ, i64_w, i32_w]
      rfl
     refine take_ (i := 38) (N := some 129) (v := ?_) (a' := ?_) #[tt_,tt_,tt_,tt_,tt_,tt_,tt_,tt_,tt_,tt_,tt_,tt_,tt_,tt_,tt_,tt_,tt_,tt_,tt_,tt_,tt_,tt_,tt_,tt_,tt_,tt_,tt_,tt_,tt_,tt_,tt_,tt_,tt_,tt_,tt_,tt_,tt_,tt_,tt_,ff_,ff_,ff_,ff_] rfl rfl (by kernel_rfl) (fun _ _ _ h => h) (Or.inl ⟨by rfl, ?_⟩) hHeld ?_ ?_
     rotate_left
     ·rintro w' ⟨s0, s1, s2, s3⟩
      go_simp
      with_reducible rfl
     rotate_left
     ·simp only [Act.put, List.setIfInBounds_toArray, List.set_cons_zero, List.set_cons_succ, i64_w, i32_w]
      rfl
     refine take_ (i := 39) (N := some 130) (v := ?_) (a' := ?_) #[tt_,tt_,tt_,tt_,tt_,tt_,tt_,tt_,tt_,tt_,tt_,tt_,tt_,tt_,tt_,tt_,tt_,tt_,tt_,tt_,tt_,tt_,tt_,tt_,tt_,tt_,tt_,tt_,tt_,tt_,tt_,tt_,tt_,tt_,tt_,tt_,tt_,tt_,tt_,tt_,ff_,ff_,ff_] rfl rfl (by kernel_rfl) (fun _ _ _ h => h) (Or.inl ⟨by rfl, ?_⟩) hHeld ?_ ?_
     rotate_left
     ·rintro w' ⟨s0, s1, s2, s3⟩
      go_simp
      with_reducible rfl
     rotate_left
     ·simp only [Act.put, List.setIfInBounds_toArray, List.set_cons_zero, List.set_cons_succ, i64_w, i32_w]
      rfl
     refine one_ (i := 40) (N := some 131) #[tt_,tt_,tt_,tt_,tt_,tt_,tt_,tt_,tt_,tt_,tt_,tt_,tt_,tt_,tt_,tt_,tt_,tt_,tt_,tt_,tt_,tt_,tt_,tt_,tt_,tt_,tt_,tt_,tt_,tt_,tt_,tt_,tt_,tt_,tt_,tt_,tt_,tt_,tt_,tt_,tt_,ff_,ff_] rfl rfl (by kernel_rfl) (by decide) (fun K hK => ?_)
     refine goes_ Try.func28 (by kernel_rfl) rfl #[.pointer (some ⟨gc, 0, none⟩), .int .u32 (q : Int), .agg #[.int .u32 (pX : Int), .int .u32 (pB : Int), .bool true]] (by rfl) rfl rfl (by (try simp only [List.map_toArray, List.map_cons, List.map_nil]); rfl) ?_
     with_reducible refine (HK1.out _ B_6.out).mono ?_
     rintro e w7 ⟨rfl, hb⟩
     refine ⟨_, rfl, ?_⟩
     have B_7 := Aside0.mk (below_step B_6.out hb)
     have P_7 := Aside0.mk (blk_below P_6.out hb)
     clear P_6
     clear hb
     refine hK.out _ _ ⟨HCX.out _ B_7.out, (blk_cell P_7.out 0).trans rfl, (blk_cell P_7.out 1).trans rfl, (blk_cell P_7.out 2).trans rfl⟩ (fun hHeld => ?_)
     clear hK K
     refine norm_ (a' := ?_) ?_ ?_
     rotate_left
     ·show Act.put _ (some 131) _ = _
      simp only [Act.put, List.setIfInBounds_toArray, List.set_cons_zero, List.set_cons_succ, i64_w, i32_w]
      rfl
     refine pure_ (i := 41) (N := some 132) (v := ?_) (a' := ?_) #[tt_,tt_,tt_,tt_,tt_,tt_,tt_,tt_,tt_,tt_,tt_,tt_,tt_,tt_,tt_,tt_,tt_,tt_,tt_,tt_,tt_,tt_,tt_,tt_,tt_,tt_,tt_,tt_,tt_,tt_,tt_,tt_,tt_,tt_,tt_,tt_,tt_,tt_,tt_,tt_,tt_,tt_,ff_] rfl rfl (by kernel_rfl) (fun _ _ _ h => h) (Or.inl ⟨by rfl, ?_⟩) ?_ ?_
     rotate_left
     ·intro w'
      go_simp
      with_reducible rfl
     rotate_left
     ·simp only [Act.put, List.setIfInBounds_toArray, List.set_cons_zero, List.set_cons_succ, i64_w, i32_w]
      rfl
     refine pure_ (i := 42) (N := some 133) (v := ?_) (a' := ?_) #[tt_,tt_,tt_,tt_,tt_,tt_,tt_,tt_,tt_,tt_,tt_,tt_,tt_,tt_,tt_,tt_,tt_,tt_,tt_,tt_,tt_,tt_,tt_,tt_,tt_,tt_,tt_,tt_,tt_,tt_,tt_,tt_,tt_,tt_,tt_,tt_,tt_,tt_,tt_,tt_,tt_,tt_,tt_] rfl rfl (by kernel_rfl) (fun _ _ _ h => h) (Or.inl ⟨by rfl, ?_⟩) ?_ ?_
     rotate_left
     ·intro w'
      go_simp
      with_reducible rfl
     rotate_left
     ·simp only [Act.put, List.setIfInBounds_toArray, List.set_cons_zero, List.set_cons_succ, i64_w, i32_w]
      rfl
     refine done_ (by kernel_rfl) ?_
     go_wp2
     go_roundg (k - (i + 1))
     case measure => have := HIN.out; omega
     case rel => exact ⟨i + 1, by first | rfl | (congr 1; omega), HIN.out, by omega, ⟨below_step HB.out B_7.out⟩⟩
  case neg =>
   obtain rfl : i = k := by omega
   have dd : decide ((i : Int) < (i : Int)) = false := decide_eq_false (by omega)
   clear hs hin
   go_wp2
   obtain ⟨w0, hw0⟩ : ∃ w0, w0 = wr := ⟨_, rfl⟩
   rw [← hw0]
   have HB0 : Aside0 (Below W0.heap.size W0 w0) := ⟨by rw [hw0]; exact HB.out⟩
   clear hw0 HB dd
   go_loopg [14] m (fun kx s14 wr => ∃ j : Nat, s14 = .int .i64 (j : Int) ∧ j ≤ m ∧ m - j ≤ kx ∧ Aside0 (Below W0.heap.size W0 wr))
   case atStart => exact ⟨0, rfl, Nat.zero_le _, by omega, HB0⟩
   case round =>
    obtain ⟨j, rfl, j1, j2, HB⟩ := hrel
    have hs := HSZ.out
    by_cases hjn : j < m
    case neg =>
     obtain rfl : j = m := by omega
     have dd : decide ((j : Int) < (j : Int)) = false := decide_eq_false (by omega)
     clear hs hjn
     go_wp2
     go_ret
     exact ⟨rfl, below_step B4.out HB.out⟩
    have HJN := Aside0.mk hjn
    have HJX : Aside0 (j < xs.length) := ⟨by have := HM.out; omega⟩
    have e1j : decide ((0 : Int) ≤ (j : Int)) = true := decide_eq_true (by omega)
    have e2j : decide ((j : Int) < (m : Int)) = true := decide_eq_true (by omega)
    have e5j : ((0 : Int) ≤ (j : Int)) = True := eq_true (by omega)
    have e6j : ((j : Int) < (m : Int)) = True := eq_true (by omega)
    have e7j : (j < m) = True := eq_true (by omega)
    have wi : IntKind.i64.wrap ((j : Int) + 1) = ((j + 1 : Nat) : Int) := by rw [show IntKind.i64.wrap ((j : Int) + 1) = wrap64 ((j : Int) + 1) from i64_w _, w64 (by omega) (by omega)]; omega
    obtain ⟨ax, rfl, hcx⟩ := (HX.out wr (below_step B4.out HB.out)).at_ j HJX.out
    obtain ⟨x, hx⟩ : ∃ x, gt xs j = x := ⟨_, rfl⟩
    have HXL : Aside0 (x < 4294967296) := ⟨by rw [← hx]; exact HG.out j⟩
    rw [hx] at hcx
    have en := HEN.out
    have HLW : Aside0 (lo < 4294967296) := ⟨en.1⟩
    have HHW : Aside0 (hi < 4294967296) := ⟨en.2.1⟩
    obtain ⟨kx_, hkx⟩ : ∃ u, kf x = u := ⟨_, rfl⟩
    obtain ⟨kl, hkl⟩ : ∃ u, kf lo = u := ⟨_, rfl⟩
    obtain ⟨kh, hkh⟩ : ∃ u, kf hi = u := ⟨_, rfl⟩
    have KX := Aside0.mk hkx
    have KL := Aside0.mk hkl
    have KH := Aside0.mk hkh
    clear hs hjn hx
    by_cases c1 : kx_ < kl
    ·have t1 : decide ((kx_ : Int) < (kl : Int)) = true := decide_eq_true (by omega)
     have t2 : (kx_ < kl) = True := eq_true c1
     clear en hkx hkl hkh c1
     go_wp2_with (first | (go_at_call 29; (with_reducible refine (rKey_calls x HXL.out _).mono ?_); rw [KX.out]; rintro e _ ⟨rfl, nd, rfl⟩) | (go_at_call 29; (with_reducible refine (rKey_calls lo HLW.out _).mono ?_); rw [KL.out]; rintro e _ ⟨rfl, nd, rfl⟩))
     go_roundg (m - (j + 1))
     case measure => have := HJN.out; omega
     case rel => exact ⟨j + 1, by first | rfl | (congr 1; omega), HJN.out, by omega, ⟨by repeat (first | exact HB.out | apply pw_below_drewN)⟩⟩
    have t1 : decide ((kx_ : Int) < (kl : Int)) = false := decide_eq_false (by omega)
    have t2 : (kx_ < kl) = False := eq_false c1
    by_cases c2 : kh < kx_
    ·obtain ⟨t3, t4, t5⟩ := gtr_t c2
     clear en hkx hkl hkh c1 c2
     go_wp2_with (first | (go_at_call 29; (with_reducible refine (rKey_calls x HXL.out _).mono ?_); rw [KX.out]; rintro e _ ⟨rfl, nd, rfl⟩) | (go_at_call 29; (with_reducible refine (rKey_calls lo HLW.out _).mono ?_); rw [KL.out]; rintro e _ ⟨rfl, nd, rfl⟩) | (go_at_call 29; (with_reducible refine (rKey_calls hi HHW.out _).mono ?_); rw [KH.out]; rintro e _ ⟨rfl, nd, rfl⟩))
     go_roundg (m - (j + 1))
     case measure => have := HJN.out; omega
     case rel => exact ⟨j + 1, by first | rfl | (congr 1; omega), HJN.out, by omega, ⟨by repeat (first | exact HB.out | apply pw_below_drewN)⟩⟩
    obtain ⟨t3, t4, t5⟩ := gtr_f c2
    have hmx := meets_x HRF.out en.1 en.2.1 en.2.2.1 en.2.2.2.1 en.2.2.2.2 HXL.out (by omega) (by omega)
    have hok := lst_X HRF.out en.1 en.2.1 en.2.2.1 en.2.2.2.1 en.2.2.2.2 (F x) hmx.1
    obtain ⟨P, hP⟩ : ∃ P, lst F lo hi (F x) = P := ⟨_, rfl⟩
    have HFX : Aside0 (F x < 4294967296) := ⟨HRF.out.word x HXL.out⟩
    have HL1 : Aside0 (∀ W, Below wr.heap.size wr W → Calls Try.prog 27 #[.pointer (some ⟨gc, 0, none⟩), .int .u32 ((F x : Nat) : Int)] W fun e w' => e = .returned (.tuple #[.agg #[.int .u32 (P.X : Int), .int .u32 (P.B : Int), .bool P.H], .int .i64 0]) ∧ Below W.heap.size W w') := ⟨fun W hb => by
     have := HCL.out W gc gs (F x) HFX.out (HCW.out W (below_step HB.out hb))
     rw [hP] at this
     have e : lerr F hi (F x) = 0 := by unfold lerr; rw [hmx.1]; rfl
     rw [e] at this
     exact this⟩
    have HA1 : Aside0 (∀ W, Below wr.heap.size wr W → Calls Try.prog 22 #[.pointer (some ⟨gc, 0, none⟩), .int .u32 (x : Int)] W fun e w' => e = .returned (.int .u32 ((F x : Nat) : Int)) ∧ Below W.heap.size W w') := ⟨fun W hb => HCH.out W gc gs x HXL.out (HCW.out W (below_step HB.out hb))⟩
    rw [hP] at hmx hok
    obtain ⟨pX, pB, pH⟩ := P
    simp only at HL1 hmx hok
    obtain ⟨kp, hkp⟩ : ∃ u, kf pX = u := ⟨_, rfl⟩
    have KP := Aside0.mk hkp
    have HPX : Aside0 (pX < 4294967296) := ⟨hok.2.2.2⟩
    obtain ⟨t6, t7, t8⟩ := gtr_f (a := kp) (b := kx_) (by rw [hkp, hkx] at hmx; omega)
    have HCX : Aside0 (∀ W, Below wr.heap.size wr W → W.cell? (ax.add j) = some (.int .u32 (x : Int))) := ⟨fun W hb => pw_cell_below hb hcx⟩
    clear en hkx hkl hkh c1 c2 hmx hok hP hkp
    go_wp2_with (first | (go_at_call 29; (with_reducible refine (rKey_calls x HXL.out _).mono ?_); rw [KX.out]; rintro e _ ⟨rfl, nd, rfl⟩) | (go_at_call 29; (with_reducible refine (rKey_calls lo HLW.out _).mono ?_); rw [KL.out]; rintro e _ ⟨rfl, nd, rfl⟩) | (go_at_call 29; (with_reducible refine (rKey_calls hi HHW.out _).mono ?_); rw [KH.out]; rintro e _ ⟨rfl, nd, rfl⟩) | (go_at_call 22; (with_reducible refine (HA1.out _ (by repeat (first | exact Below.refl _ _ | apply pw_below_drewN))).mono ?_); rintro e w5 ⟨rfl, hb⟩; have B_5 : Aside0 (Below wr.heap.size wr w5) := ⟨below_step (by repeat (first | exact Below.refl _ _ | apply pw_below_drewN)) hb⟩; clear hcx; clear hb) | (go_at_call 27; (with_reducible refine (HL1.out _ B_5.out).mono ?_); rintro e w6 ⟨rfl, hb⟩; have B_6 := Aside0.mk (below_step B_5.out hb); clear hb) | ((with_reducible refine gate_dst (N := 16) rfl ?_); refine box_event ?hg (N := 16) ?hd (cs := #[.int .u32 0, .int .u32 0, .bool false]) (t := 32) ?hr ?_; (case hd => rfl); (case hg => rfl); (case hr => first | (go_simp; done) | (go_simp; rfl)); intro g16 hg_ w7 hm_ hb_; have GP := Aside0.mk (show wr.heap.size ≤ g16 by rw [hg_]; exact B_6.out.size); have B_7 := Aside0.mk (below_step B_6.out hb_); have P_7 := Aside0.mk (hm_); have cP0 := (blk_cell P_7.out 0).trans rfl; have cP1 := (blk_cell P_7.out 1).trans rfl; have cP2 := (blk_cell P_7.out 2).trans rfl; clear hm_ hb_ hg_) | ((with_reducible refine gate_store (p := 16) rfl ?_); refine store_event rfl rfl rfl g16 #[.int .u32 (pX : Int), .int .u32 (pB : Int), .bool pH] _ 32 rfl rfl P_7.out size32 rfl (by simp [Value.oneCell']) ?_; intro w8 hm_ hst_ hbl_; clear cP0 cP1 cP2; have B_8 := Aside0.mk (B_7.out.trans (hbl_ _ GP.out)); have P_8 := Aside0.mk (hm_); clear P_7 hm_ hst_ hbl_; have cP0 := (blk_cell P_8.out 0).trans rfl; have cP1 := (blk_cell P_8.out 1).trans rfl; have cP2 := (blk_cell P_8.out 2).trans rfl) | (go_at_call 29; (with_reducible refine (rKey_calls pX HPX.out _).mono ?_); rw [KP.out]; rintro e _ ⟨rfl, nd, rfl⟩))
    go_roundg (m - (j + 1))
    case measure => have := HJN.out; omega
    case rel => exact ⟨j + 1, by first | rfl | (congr 1; omega), HJN.out, by omega, ⟨below_step HB.out (by repeat (first | exact B_8.out | apply pw_below_drewN))⟩⟩
end Go.Proofs.Ytkicfaboibfbpaa.A
end
section
set_option linter.unusedVariables false
set_option linter.unusedSimpArgs false
namespace Go.Proofs.Ytkicfaboibfbpaa.A
open Go.RowKit Go.Proofs.YtkicfaboibfbpaaW.PrintWords Go.Proofs.YtkicfaboibfbpaaW.PrintLast Go.Proofs.YtkicfaboibfbpaaW.PrintMore Go.Proofs.Ytkicfaboibfbpaa.PCurveAts
set_option maxHeartbeats 4000000 in
set_option maxRecDepth 100000 in
theorem curveMeets (A1 : Option Addr) (c1 : Nat) (ls : List (List (Nat × Nat))) (A2 : Option Addr) (c2 : Nat) (xs : List Nat) (A3 : Option Addr) (c3 : Nat) (ys : List Nat) (w : World) (hK : KsA w A1 ls) (hc1 : ls.length ≤ c1) (hl : ∀ l ∈ ls, kok l) (hX : Ws w A2 xs) (hc2 : xs.length ≤ c2) (hx : ∀ i, gt xs i < 4294967296) (hY : Ws w A3 ys) (hc3 : ys.length ≤ c3) (hy : ∀ i, gt ys i < 4294967296) :
    Calls Try.prog 8 #[.slice A1 ls.length c1, .slice A2 xs.length c2, .slice A3 ys.length c3] w fun e w' => e = .returned (.bool true) ∧ Below w.heap.size w w' := by
 by_cases g1 : 60 < xs.length
 ·obtain ⟨m, hmm⟩ : ∃ n, xs.length = n := ⟨_, rfl⟩
  obtain ⟨k, hkk⟩ : ∃ n, ys.length = n := ⟨_, rfl⟩
  rw [hmm] at g1 ⊢
  have d1 : decide ((m : Int) > 60) = true := decide_eq_true (by omega)
  have d2 : (60 < m) = True := eq_true (by omega)
  clear hK hc1 hl hX hc2 hx hY hc3 hy hmm hkk g1
  go_enter Try.func8, Try.ntmps8
  go_wp2_with (first | (go_at_call 10; (with_reducible refine (known_calls _).mono ?_); rintro e w1 ⟨rfl, hb⟩; have B1 := Aside0.mk hb; clear hb))
  go_ret
  exact ⟨rfl, B1.out⟩
 by_cases g2 : 60 < ys.length
 ·obtain ⟨m, hmm⟩ : ∃ n, xs.length = n := ⟨_, rfl⟩
  obtain ⟨k, hkk⟩ : ∃ n, ys.length = n := ⟨_, rfl⟩
  rw [hmm] at g1 ⊢; rw [hkk] at g2 ⊢
  have d1 : decide ((m : Int) > 60) = false := decide_eq_false (by omega)
  have d2 : (60 < m) = False := eq_false (by omega)
  have d3 : decide ((k : Int) > 60) = true := decide_eq_true (by omega)
  have d4 : (60 < k) = True := eq_true (by omega)
  clear hK hc1 hl hX hc2 hx hY hc3 hy hmm hkk g1 g2
  go_enter Try.func8, Try.ntmps8
  go_wp2_with (first | (go_at_call 10; (with_reducible refine (known_calls _).mono ?_); rintro e w1 ⟨rfl, hb⟩; have B1 := Aside0.mk hb; clear hb))
  go_ret
  exact ⟨rfl, B1.out⟩
 cases hm : mayB ls
 ·have HMAY : Aside0 (∀ W, Below w.heap.size w W → Calls Try.prog 19 #[.slice A1 ls.length c1] W fun e w' => e = .returned (.bool false) ∧ Below W.heap.size W w') := ⟨fun W hb => by
   have := may_calls A1 c1 ls hl W (hK.below hb)
   rwa [hm] at this⟩
  obtain ⟨m, hmm⟩ : ∃ n, xs.length = n := ⟨_, rfl⟩
  obtain ⟨k, hkk⟩ : ∃ n, ys.length = n := ⟨_, rfl⟩
  rw [hmm] at g1 ⊢; rw [hkk] at g2 ⊢
  have d1 : decide ((m : Int) > 60) = false := decide_eq_false (by omega)
  have d2 : (60 < m) = False := eq_false (by omega)
  have d3 : decide ((k : Int) > 60) = false := decide_eq_false (by omega)
  have d4 : (60 < k) = False := eq_false (by omega)
  clear hK hc1 hl hX hc2 hx hY hc3 hy hmm hkk g1 g2 hm
  go_enter Try.func8, Try.ntmps8
  go_wp2_with (first | (go_at_call 10; (with_reducible refine (known_calls _).mono ?_); rintro e w1 ⟨rfl, hb⟩; have B1 := Aside0.mk hb; clear hb) | (go_at_call 19; (with_reducible refine (HMAY.out w1 B1.out).mono ?_); rintro e w2 ⟨rfl, hb⟩; have B2 := Aside0.mk (below_step B1.out hb); clear hb))
  go_ret
  exact ⟨rfl, B2.out⟩
 ·exact curveMeets_main A1 c1 ls A2 c2 xs A3 c3 ys w hK hc1 hl hX hc2 hx hY hc3 hy g1 g2 hm
end Go.Proofs.Ytkicfaboibfbpaa.A
end
section
-- PRINTED WORDS (module Derived/Print/Sized.lean): go-gate-2's, for the rows of laws over slices: an AI agent of Go's test side, Tue Nov 17 2026; no person has read it. Lean checks it.
namespace Go.Proofs.YtkicfaboibfbpaaW.PrintWords
open Go.ChangeShapes Go.WideShapes
/-- A row's slice of whole numbers is no longer than its weight allows. -/
theorem sized_ints {H : Type} {enc : TypeId × Value → H} {P : Program} {W : World} {base : Nat} {spare : Nat → Bool} {held : Bool} {t e : TypeId} {k : IntKind} {a : Option Addr} {len cap : Nat} {d : DataW H} {ps : List MemPlace} {ts : List TypeId} {ds : List (DataW H)} {j : Nat}
    (hsz : (DataW.weightsEach P ts ds).all (· ≤ reachBytes) = true) (ht : ts[j]? = some t) (hd : ds[j]? = some d) (hu : P.underlying t = some (.slice e)) (he : P.underlying e = some (.int k)) (hc : P.cellsOf e = 1) {B : Nat} (hB : P.bytesOf e = B)
    (h : DataW.Trod enc P W base spare held t (.slice a len cap) d ps) : len * B ≤ 140737488351232 := by
 obtain ⟨fuel, hf⟩ := h
 rcases open_ints hu he hc hf with ⟨hcs, _⟩ | ⟨x, l, c, zs, hcs, _, hl, _, hz, hx, _, _⟩
 ·simp [Value.cells] at hcs
  obtain ⟨rfl, rfl, rfl⟩ := hcs
  simp
 ·simp [Value.cells] at hcs
  obtain ⟨rfl, rfl, rfl⟩ := hcs
  obtain ⟨hx, _⟩ := Prod.mk.inj hx
  subst hx
  have z := sized_slice hsz ht hd hu
  rw [hB] at z
  have hl2 : len ≤ zs.length := by
   rw [hz]
   split
   ·exact hl
   ·exact Nat.le_refl _
  have h1 : (lits (H := H) k (zs.take len)).length + (lits (H := H) k (zs.drop len)).length = zs.length := by
   simp [lits]
   omega
  rw [h1] at z
  exact Nat.le_trans (Nat.mul_le_mul_right _ hl2) z
end Go.Proofs.YtkicfaboibfbpaaW.PrintWords
end
section
set_option linter.unusedVariables false
set_option linter.unusedSimpArgs false
namespace Go.Proofs.Ytkicfaboibfbpaa.A
open Go.RowKit Go.ChangeShapes Go.WideShapes Go.ChangeAt Go.Proofs.YtkicfaboibfbpaaW.PrintWords Go.Proofs.YtkicfaboibfbpaaW.PrintLast Go.Proofs.YtkicfaboibfbpaaW.PrintMore Go.Proofs.Ytkicfaboibfbpaa.PCurveAts
theorem list_choose {α : Type} {P : Nat → α → Prop} : ∀ (n : Nat), (∀ i, i < n → ∃ a, P i a) → ∃ l : List α, l.length = n ∧ ∀ i a, l[i]? = some a → P i a := by
 intro n
 induction n with
 | zero => intro _; exact ⟨[], rfl, fun i a h => by simp at h⟩
 | succ n ih =>
  intro h
  obtain ⟨l, hl, hp⟩ := ih (fun i hi => h i (by omega))
  obtain ⟨a, ha⟩ := h n (by omega)
  refine ⟨l ++ [a], by simp [hl], fun i b hb => ?_⟩
  by_cases hi : i < n
  ·rw [List.getElem?_append_left (by omega)] at hb; exact hp i b hb
  ·rw [List.getElem?_append_right (by omega)] at hb
   have : i - l.length = 0 := by
    have := (List.getElem?_eq_some_iff.1 hb).1
    simp at this; omega
   rw [this] at hb
   simp at hb
   subst hb
   rw [show i = n by omega]; exact ha
theorem cells30 : Try.prog.cellsOf 30 = 1 := by kernel_rfl
theorem cells43 : Try.prog.cellsOf 43 = 2 := by kernel_rfl
theorem cells23 : Try.prog.cellsOf 23 = 1 := by kernel_rfl
section
variable {H : Type} {enc : TypeId × Value → H} {W : World}
theorem word_of_trod {fuel : Nat} {v : Value} {y : DataW H × List MemPlace} (h : DataW.trod enc Try.prog W 0 (fun _ => true) true fuel 30 [v] = some y) : ∃ n : Nat, v = .int .u32 (n : Int) ∧ n < 4294967296 := by
 obtain ⟨s, e0, rfl, hw⟩ := DataW.trod_int Try.underlying30 h
 injection e0 with e0 _
 obtain ⟨n, rfl, hn⟩ := wf32 hw
 exact ⟨n, e0, hn⟩
theorem knot_open {fuel : Nat} {cs : List Value} {y : DataW H × List MemPlace} (h : DataW.trod enc Try.prog W 0 (fun _ => true) true fuel 43 cs = some y) :
    ∃ k : Nat × Nat, cs = [.int .u32 (k.1 : Int), .int .u32 (k.2 : Int)] ∧ k.1 < 4294967296 ∧ k.2 < 4294967296 := by
 obtain ⟨y0, y1, n, rfl, hlen, h0, h1⟩ := trod_struct2 Try.underlying43 h
 simp only at h0 h1
 rw [cells30] at h0 h1
 have hc2 : cs.length = 2 := hlen.trans cells43
 obtain ⟨v0, v1, rfl⟩ : ∃ a b, cs = [a, b] := by
  match cs, hc2 with
  | [a, b], _ => exact ⟨a, b, rfl⟩
 have h0 : DataW.trod enc Try.prog W 0 (fun _ => true) true n 30 [v0] = some y0 := h0
 have h1 : DataW.trod enc Try.prog W 0 (fun _ => true) true n 30 [v1] = some y1 := h1
 obtain ⟨a, rfl, ha⟩ := word_of_trod h0
 obtain ⟨b, rfl, hb⟩ := word_of_trod h1
 exact ⟨(a, b), rfl, ha, hb⟩
theorem knots_open {fuel : Nat} {a : Option Addr} {len cap : Nat} {y : DataW H × List MemPlace} (h : DataW.trod enc Try.prog W 0 (fun _ => true) true fuel 23 [.slice a len cap] = some y) :
    ∃ l : List (Nat × Nat), l.length = len ∧ len ≤ cap ∧ Kn W a l ∧ kok l := by
 rcases Go.Deep.open_slice Try.underlying23 h with ⟨hcs, rfl⟩ | ⟨ad, len', cap', m, n, D, Pl, hcs, _, hl, hm, rfl, rfl, hel⟩
 ·injection hcs with hcs _
  injection hcs with e1 e2 e3
  subst e1 e2 e3
  exact ⟨[], rfl, Nat.le_refl _, ⟨rfl, by decide, fun h => absurd h (by decide)⟩, fun k hk => absurd hk (by simp)⟩
 injection hcs with hcs _
 injection hcs with e1 e2 e3
 subst e1 e2 e3
 obtain ⟨l, hll, hp⟩ := list_choose (α := Nat × Nat) (P := fun i k => ∃ cs' : List Value, W.cells? 0 (ad.add (i * 2)) 2 = some cs' ∧ cs' = [.int .u32 (k.1 : Int), .int .u32 (k.2 : Int)] ∧ k.1 < 4294967296 ∧ k.2 < 4294967296) len (fun i hi => by
  obtain ⟨cs', h1, h2⟩ := hel i (by show i < cap; omega)
  rw [cells43] at h1
  obtain ⟨k, h3, h4⟩ := knot_open h2
  exact ⟨k, cs', h1, h3, h4⟩)
 have hcap : cap ≤ 9223372036854775807 := hm
 subst hll
 refine ⟨l, rfl, hl, ⟨by rw [List.length_map], by omega, fun _ => ⟨ad, rfl, fun j p hj => ?_⟩⟩, fun k hk => ?_⟩
 ·rw [List.getElem?_map] at hj
  cases hlj : l[j]? with
  | none => rw [hlj] at hj; cases hj
  | some k =>
   rw [hlj] at hj
   obtain rfl := Option.some.inj hj
   obtain ⟨cs', h1, rfl, _⟩ := hp j k hlj
   have hc := (World.cells?_some h1).2.2
   refine ⟨_, rfl, k43.K_of_M (k43_mkM W 0 (fun _ => True) (kI k)), fun i u hu => ?_⟩
   match i, hu with
   | 0, hu => exact (hc 0 (by omega)).trans hu
   | 1, hu => exact ((congrArg W.cell? (Addr.add_add ad (j * 2) 1).symm).trans (hc 1 (by omega))).trans hu
 ·obtain ⟨j, hj, rfl⟩ := List.mem_iff_getElem.mp hk
  obtain ⟨_, _, _, h3⟩ := hp j _ (List.getElem?_eq_getElem hj)
  exact h3
theorem knotss_open {fuel : Nat} {a : Option Addr} {len cap : Nat} {y : DataW H × List MemPlace} (h : DataW.trod enc Try.prog W 0 (fun _ => true) true fuel 29 [.slice a len cap] = some y) :
    ∃ ls : List (List (Nat × Nat)), ls.length = len ∧ len ≤ cap ∧ KsA W a ls ∧ ∀ l ∈ ls, kok l := by
 rcases Go.Deep.open_slice Try.underlying29 h with ⟨hcs, rfl⟩ | ⟨ad, len', cap', m, n, D, Pl, hcs, _, hl, hm, rfl, rfl, hel⟩
 ·injection hcs with hcs _
  injection hcs with e1 e2 e3
  subst e1 e2 e3
  exact ⟨[], rfl, Nat.le_refl _, ⟨[], rfl, Kd.C_nil _ _, fun i hi => absurd hi (by simp)⟩, fun k hk => absurd hk (by simp)⟩
 injection hcs with hcs _
 injection hcs with e1 e2 e3
 subst e1 e2 e3
 obtain ⟨l, hll, hp⟩ := list_choose (α := Hd × List (Nat × Nat)) (P := fun i p => ∃ cs' : List Value, W.cells? 0 (ad.add (i * 1)) 1 = some cs' ∧ cs' = [.slice p.1.1 p.1.2.1 p.1.2.2] ∧ p.1.2.1 = p.2.length ∧ p.2.length ≤ p.1.2.2 ∧ Kn W p.1.1 p.2 ∧ kok p.2) len (fun i hi => by
  obtain ⟨cs', h1, h2⟩ := hel i (by show i < cap; omega)
  rw [cells23] at h1
  have h1' := h1
  obtain ⟨A, n2, c2, rfl⟩ := Go.Joins.slice_form Try.underlying23 h2
  obtain ⟨l, rfl, h4, h5, h6⟩ := knots_open h2
  exact ⟨((A, l.length, c2), l), _, h1', rfl, rfl, h4, h5, h6⟩)
 have hcap : cap ≤ 9223372036854775807 := hm
 subst hll
 refine ⟨l.map (·.2), by simp, by simpa using hl, ⟨l.map (·.1), by simp, Kd.C_of_reads (d := (none, 0, 0)) ⟨by simp, by simp; omega, fun _ => ⟨ad, rfl, fun j hj => ?_⟩⟩, fun i hi => ?_⟩, fun k hk => ?_⟩
 ·have hj' : j < l.length := by simpa using hj
  obtain ⟨cs', h1, rfl, _⟩ := hp j _ (List.getElem?_eq_getElem hj')
  have hc := (World.cells?_some h1).2.2 0 (by omega)
  rw [Nat.mul_one, Addr.add_zero'] at hc
  rw [List.getD_eq_getElem?_getD, List.getElem?_map, List.getElem?_eq_getElem hj']
  simpa using hc
 ·have hi' : i < l.length := by simpa using hi
  obtain ⟨cs', _, _, h3, h4, h5, _⟩ := hp i _ (List.getElem?_eq_getElem hi')
  rw [List.getD_eq_getElem?_getD, List.getD_eq_getElem?_getD, List.getElem?_map, List.getElem?_map, List.getElem?_eq_getElem hi']
  exact ⟨h3, h4, h5⟩
 ·obtain ⟨p, hp', rfl⟩ := List.mem_map.mp hk
  obtain ⟨j, hj, rfl⟩ := List.mem_iff_getElem.mp hp'
  obtain ⟨_, _, _, _, _, _, h3⟩ := hp j _ (List.getElem?_eq_getElem hj)
  exact h3
end
end Go.Proofs.Ytkicfaboibfbpaa.A
end
