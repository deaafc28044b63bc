import Derived.Test.YtkicfaboibfbpaaU2
import Derived.ChangeSlices
import Derived.Deep.Slices
import Derived.Lib.SmallJoins
import Derived.SizedLaws
import Derived.Test.YtkicfaboibfbpaaRows
import Derived.WalkSpells
section
set_option linter.unusedVariables false
set_option linter.unusedSimpArgs false
namespace Go.Proofs.Ytkicfaboibfbpaa.A
open Go.RowKit Go.Proofs.YtkicfaboibfbpaaW.PrintWords Go.Proofs.YtkicfaboibfbpaaW.PrintLast Go.Proofs.YtkicfaboibfbpaaW.PrintMore Go.Proofs.Ytkicfaboibfbpaa.PCurveAts
set_option maxHeartbeats 4000000 in
theorem reachesc_calls (g x y : Nat) (F : Nat → Nat) (w : World) (hx : x < 4294967296) (hy : y < 4294967296) (hF : ∀ x, x < 4294967296 → F x < 4294967296) (hA : ∀ (W : World) (x : Nat), x < 4294967296 → Below w.heap.size w W → Calls Try.prog 17 #[.pointer (some ⟨g, 0, none⟩), .int .u32 (x : Int)] W fun e w' => e = .returned (.int .u32 ((F x : Nat) : Int)) ∧ Below W.heap.size W w') :
    Calls Try.prog 60 #[.iface 26 (.pointer (some ⟨g, 0, none⟩)), .int .u32 (x : Int), .int .u32 (y : Int)] w fun e w' => e = .returned (.bool (rch F x y)) ∧ Below w.heap.size w w' := by
 have HA := Aside0.mk hA
 have HX := Aside0.mk hx
 have HY := Aside0.mk hy
 have HV : Aside0 (F x < 4294967296) := ⟨hF x hx⟩
 have B_0 : Aside0 (Below w.heap.size w w) := ⟨Below.refl _ _⟩
 have hm : ∀ w, (method 213 26 (.pointer (some ⟨g, 0, none⟩)) "At").run Try.prog w = .ok (17, .pointer (some ⟨g, 0, none⟩)) w := fun _ => by kernel_rfl
 have hn : ∀ w, (nilAhead 213 26 (.pointer (some ⟨g, 0, none⟩)) "At").run Try.prog w = .ok (some false) w := fun _ => by kernel_rfl
 clear hA hx hy hF
 unfold rch
 cases c1 : lt y (F x)
 ·rw [Bool.false_or]
  go_enter Try.func60, Try.ntmps60
  go_wp2_with (first | (go_at_call 17; (with_reducible refine (HA.out _ x HX.out (Below.refl _ _)).mono ?_); rintro e w1 ⟨rfl, hb⟩; have B_1 := Aside0.mk (below_step B_0.out hb); clear hb) | (go_at_call 45; with_reducible refine (Less_calls y (F x) HY.out HV.out _).mono ?_; rw [c1]; rintro e _ ⟨rfl, rfl⟩) | (go_at_call 48; with_reducible refine (Equal_calls y (F x) HY.out HV.out _).mono ?_; rintro e _ ⟨rfl, rfl⟩))
  go_ret
  exact ⟨rfl, B_1.out⟩
 ·rw [Bool.true_or]
  go_enter Try.func60, Try.ntmps60
  go_wp2_with (first | (go_at_call 17; (with_reducible refine (HA.out _ x HX.out (Below.refl _ _)).mono ?_); rintro e w1 ⟨rfl, hb⟩; have B_1 := Aside0.mk (below_step B_0.out hb); clear hb) | (go_at_call 45; with_reducible refine (Less_calls y (F x) HY.out HV.out _).mono ?_; rw [c1]; rintro e _ ⟨rfl, rfl⟩))
  go_ret
  exact ⟨rfl, B_1.out⟩
set_option maxHeartbeats 8000000 in
theorem provedc_calls (g lo hi y X B : Nat) (H : Bool) (F : Nat → Nat) (w : World) (hlo : lo < 4294967296) (hhi : hi < 4294967296) (hy : y < 4294967296) (hX : X < 4294967296) (hF : ∀ x, x < 4294967296 → F x < 4294967296) (hA : ∀ (W : World) (x : Nat), x < 4294967296 → Below w.heap.size w W → Calls Try.prog 17 #[.pointer (some ⟨g, 0, none⟩), .int .u32 (x : Int)] W fun e w' => e = .returned (.int .u32 ((F x : Nat) : Int)) ∧ Below W.heap.size W w') :
    Calls Try.prog 42 #[.iface 26 (.pointer (some ⟨g, 0, none⟩)), .int .u32 (lo : Int), .int .u32 (hi : Int), .int .u32 (y : Int), .agg #[.int .u32 (X : Int), .int .u32 (B : Int), .bool H]] w fun e w' => e = .returned (.bool (ckP F lo hi y ⟨X, B, H⟩)) ∧ Below w.heap.size w w' := by
 have HA := Aside0.mk hA
 have HF := Aside0.mk hF
 have HX := Aside0.mk hX
 have HY := Aside0.mk hy
 have HLO := Aside0.mk hlo
 have HHI := Aside0.mk hhi
 unfold ckP
 simp only
 have B_0 : Aside0 (Below w.heap.size w w) := ⟨Below.refl _ _⟩
 clear hA hF hX hy hlo hhi
 cases c0 : isnan y
 ·rw [if_neg (show ¬ (false = true) by decide)]
  by_cases d1 : kf X < kf lo
  ·have c1 := decide_eq_true d1
   rw [if_pos d1]
   clear d1
   go_enter Try.func42, Try.ntmps42
   go_wp2_with (first | ((with_reducible refine gate_dst (N := 9) rfl ?_); refine box_event ?hg (N := 9) ?hd (cs := #[.int .u32 (X : Int), .int .u32 (B : Int), .bool H]) (t := 32) ?hr ?_; (case hd => rfl); (case hg => rfl); (case hr => first | (go_simp; done) | (go_simp; rfl)); intro gp hg_ w1 hm_ hb_; have GP := Aside0.mk (show w.heap.size ≤ gp by rw [hg_]; exact B_0.out.size); have B_1 := Aside0.mk (below_step B_0.out hb_); have P_1 := Aside0.mk (hm_); have cP0 := (blk_cell P_1.out 0).trans rfl; have cP1 := (blk_cell P_1.out 1).trans rfl; have cP2 := (blk_cell P_1.out 2).trans rfl; clear hm_ hb_ hg_) | (go_at_call 44; (with_reducible refine (IsNaN_calls y HY.out _).mono ?_); rw [c0]; rintro e w2 ⟨rfl, hb⟩; clear cP0 cP1 cP2; have B_2 := Aside0.mk (below_step B_1.out hb); have P_2 := Aside0.mk (blk_below P_1.out hb); clear P_1; have cP0 := (blk_cell P_2.out 0).trans rfl; have cP1 := (blk_cell P_2.out 1).trans rfl; have cP2 := (blk_cell P_2.out 2).trans rfl; clear hb) | (go_at_call 59; (with_reducible refine (Before_calls X lo HX.out HLO.out _).mono ?_); rw [c1]; rintro e w3 ⟨rfl, hd⟩; have hb := hd.below; clear hd; clear cP0 cP1 cP2; have B_3 := Aside0.mk (below_step B_2.out hb); have P_3 := Aside0.mk (blk_below P_2.out hb); clear P_2; have cP0 := (blk_cell P_3.out 0).trans rfl; have cP1 := (blk_cell P_3.out 1).trans rfl; have cP2 := (blk_cell P_3.out 2).trans rfl; clear hb))
   go_ret
   exact ⟨rfl, B_3.out⟩
  have c1 := decide_eq_false d1
  rw [if_neg d1]
  clear d1
  by_cases d2 : kf hi < kf X
  ·have c2 := decide_eq_true d2
   rw [if_pos d2]
   clear d2
   go_enter Try.func42, Try.ntmps42
   go_wp2_with (first | ((with_reducible refine gate_dst (N := 9) rfl ?_); refine box_event ?hg (N := 9) ?hd (cs := #[.int .u32 (X : Int), .int .u32 (B : Int), .bool H]) (t := 32) ?hr ?_; (case hd => rfl); (case hg => rfl); (case hr => first | (go_simp; done) | (go_simp; rfl)); intro gp hg_ w1 hm_ hb_; have GP := Aside0.mk (show w.heap.size ≤ gp by rw [hg_]; exact B_0.out.size); have B_1 := Aside0.mk (below_step B_0.out hb_); have P_1 := Aside0.mk (hm_); have cP0 := (blk_cell P_1.out 0).trans rfl; have cP1 := (blk_cell P_1.out 1).trans rfl; have cP2 := (blk_cell P_1.out 2).trans rfl; clear hm_ hb_ hg_) | (go_at_call 44; (with_reducible refine (IsNaN_calls y HY.out _).mono ?_); rw [c0]; rintro e w2 ⟨rfl, hb⟩; clear cP0 cP1 cP2; have B_2 := Aside0.mk (below_step B_1.out hb); have P_2 := Aside0.mk (blk_below P_1.out hb); clear P_1; have cP0 := (blk_cell P_2.out 0).trans rfl; have cP1 := (blk_cell P_2.out 1).trans rfl; have cP2 := (blk_cell P_2.out 2).trans rfl; clear hb) | (go_at_call 59; (with_reducible refine (Before_calls X lo HX.out HLO.out _).mono ?_); rw [c1]; rintro e w3 ⟨rfl, hd⟩; have hb := hd.below; clear hd; clear cP0 cP1 cP2; have B_3 := Aside0.mk (below_step B_2.out hb); have P_3 := Aside0.mk (blk_below P_2.out hb); clear P_2; have cP0 := (blk_cell P_3.out 0).trans rfl; have cP1 := (blk_cell P_3.out 1).trans rfl; have cP2 := (blk_cell P_3.out 2).trans rfl; clear hb) | (go_at_call 59; (with_reducible refine (Before_calls hi X HHI.out HX.out _).mono ?_); rw [c2]; rintro e w4 ⟨rfl, hd⟩; have hb := hd.below; clear hd; clear cP0 cP1 cP2; have B_4 := Aside0.mk (below_step B_3.out hb); have P_4 := Aside0.mk (blk_below P_3.out hb); clear P_3; have cP0 := (blk_cell P_4.out 0).trans rfl; have cP1 := (blk_cell P_4.out 1).trans rfl; have cP2 := (blk_cell P_4.out 2).trans rfl; clear hb))
   go_ret
   exact ⟨rfl, B_4.out⟩
  have c2 := decide_eq_false d2
  rw [if_neg d2]
  clear d2
  cases c3 : rch F X y
  ·rw [if_pos rfl]
   go_enter Try.func42, Try.ntmps42
   go_wp2_with (first | ((with_reducible refine gate_dst (N := 9) rfl ?_); refine box_event ?hg (N := 9) ?hd (cs := #[.int .u32 (X : Int), .int .u32 (B : Int), .bool H]) (t := 32) ?hr ?_; (case hd => rfl); (case hg => rfl); (case hr => first | (go_simp; done) | (go_simp; rfl)); intro gp hg_ w1 hm_ hb_; have GP := Aside0.mk (show w.heap.size ≤ gp by rw [hg_]; exact B_0.out.size); have B_1 := Aside0.mk (below_step B_0.out hb_); have P_1 := Aside0.mk (hm_); have cP0 := (blk_cell P_1.out 0).trans rfl; have cP1 := (blk_cell P_1.out 1).trans rfl; have cP2 := (blk_cell P_1.out 2).trans rfl; clear hm_ hb_ hg_) | (go_at_call 44; (with_reducible refine (IsNaN_calls y HY.out _).mono ?_); rw [c0]; rintro e w2 ⟨rfl, hb⟩; clear cP0 cP1 cP2; have B_2 := Aside0.mk (below_step B_1.out hb); have P_2 := Aside0.mk (blk_below P_1.out hb); clear P_1; have cP0 := (blk_cell P_2.out 0).trans rfl; have cP1 := (blk_cell P_2.out 1).trans rfl; have cP2 := (blk_cell P_2.out 2).trans rfl; clear hb) | (go_at_call 59; (with_reducible refine (Before_calls X lo HX.out HLO.out _).mono ?_); rw [c1]; rintro e w3 ⟨rfl, hd⟩; have hb := hd.below; clear hd; clear cP0 cP1 cP2; have B_3 := Aside0.mk (below_step B_2.out hb); have P_3 := Aside0.mk (blk_below P_2.out hb); clear P_2; have cP0 := (blk_cell P_3.out 0).trans rfl; have cP1 := (blk_cell P_3.out 1).trans rfl; have cP2 := (blk_cell P_3.out 2).trans rfl; clear hb) | (go_at_call 59; (with_reducible refine (Before_calls hi X HHI.out HX.out _).mono ?_); rw [c2]; rintro e w4 ⟨rfl, hd⟩; have hb := hd.below; clear hd; clear cP0 cP1 cP2; have B_4 := Aside0.mk (below_step B_3.out hb); have P_4 := Aside0.mk (blk_below P_3.out hb); clear P_3; have cP0 := (blk_cell P_4.out 0).trans rfl; have cP1 := (blk_cell P_4.out 1).trans rfl; have cP2 := (blk_cell P_4.out 2).trans rfl; clear hb) | (go_at_call 60; (with_reducible refine (reachesc_calls g X y F _ HX.out HY.out HF.out (fun W2 x hx h2 => HA.out W2 x hx (B_4.out.trans (h2.mono B_4.out.size)))).mono ?_); rw [c3]; rintro e w5 ⟨rfl, hb⟩; clear cP0 cP1 cP2; have B_5 := Aside0.mk (below_step B_4.out hb); have P_5 := Aside0.mk (blk_below P_4.out hb); clear P_4; have cP0 := (blk_cell P_5.out 0).trans rfl; have cP1 := (blk_cell P_5.out 1).trans rfl; have cP2 := (blk_cell P_5.out 2).trans rfl; clear hb))
   go_ret
   exact ⟨rfl, B_5.out⟩
  rw [if_neg (show ¬ (true = false) by decide)]
  have main : ∀ b : Bool, ((X : Int) != (lo : Int)) = b → decide (X ≠ lo) = b → Calls Try.prog 42 #[.iface 26 (.pointer (some ⟨g, 0, none⟩)), .int .u32 (lo : Int), .int .u32 (hi : Int), .int .u32 (y : Int), .agg #[.int .u32 (X : Int), .int .u32 (B : Int), .bool H]] w fun e w' => e = .returned (.bool (if H ≠ decide (X ≠ lo) then false
 else if H = false then decide (B = 0) else decide (kf X ≠ 0) && (decide (B = (if kf X = 0 then 0 else fk (kf X - 1))) && !rch F (if kf X = 0 then 0 else fk (kf X - 1)) y))) ∧ Below w.heap.size w w' := by
     intro b e1 e2
     rw [e2]
     clear e2
     cases b <;> cases H
     ·rw [if_neg (show ¬ (false ≠ false) from fun h => h rfl), if_pos rfl]
      have e4 : ((B : Int) == 0) = decide (B = 0) := by rw [Bool.eq_iff_iff, beq_iff_eq, decide_eq_true_iff]; omega
      rw [← e4]
      clear e4
      go_enter Try.func42, Try.ntmps42
      go_wp2_with (first | ((with_reducible refine gate_dst (N := 9) rfl ?_); refine box_event ?hg (N := 9) ?hd (cs := #[.int .u32 (X : Int), .int .u32 (B : Int), .bool false]) (t := 32) ?hr ?_; (case hd => rfl); (case hg => rfl); (case hr => first | (go_simp; done) | (go_simp; rfl)); intro gp hg_ w1 hm_ hb_; have GP := Aside0.mk (show w.heap.size ≤ gp by rw [hg_]; exact B_0.out.size); have B_1 := Aside0.mk (below_step B_0.out hb_); have P_1 := Aside0.mk (hm_); have cP0 := (blk_cell P_1.out 0).trans rfl; have cP1 := (blk_cell P_1.out 1).trans rfl; have cP2 := (blk_cell P_1.out 2).trans rfl; clear hm_ hb_ hg_) | (go_at_call 44; (with_reducible refine (IsNaN_calls y HY.out _).mono ?_); rw [c0]; rintro e w2 ⟨rfl, hb⟩; clear cP0 cP1 cP2; have B_2 := Aside0.mk (below_step B_1.out hb); have P_2 := Aside0.mk (blk_below P_1.out hb); clear P_1; have cP0 := (blk_cell P_2.out 0).trans rfl; have cP1 := (blk_cell P_2.out 1).trans rfl; have cP2 := (blk_cell P_2.out 2).trans rfl; clear hb) | (go_at_call 59; (with_reducible refine (Before_calls X lo HX.out HLO.out _).mono ?_); rw [c1]; rintro e w3 ⟨rfl, hd⟩; have hb := hd.below; clear hd; clear cP0 cP1 cP2; have B_3 := Aside0.mk (below_step B_2.out hb); have P_3 := Aside0.mk (blk_below P_2.out hb); clear P_2; have cP0 := (blk_cell P_3.out 0).trans rfl; have cP1 := (blk_cell P_3.out 1).trans rfl; have cP2 := (blk_cell P_3.out 2).trans rfl; clear hb) | (go_at_call 59; (with_reducible refine (Before_calls hi X HHI.out HX.out _).mono ?_); rw [c2]; rintro e w4 ⟨rfl, hd⟩; have hb := hd.below; clear hd; clear cP0 cP1 cP2; have B_4 := Aside0.mk (below_step B_3.out hb); have P_4 := Aside0.mk (blk_below P_3.out hb); clear P_3; have cP0 := (blk_cell P_4.out 0).trans rfl; have cP1 := (blk_cell P_4.out 1).trans rfl; have cP2 := (blk_cell P_4.out 2).trans rfl; clear hb) | (go_at_call 60; (with_reducible refine (reachesc_calls g X y F _ HX.out HY.out HF.out (fun W2 x hx h2 => HA.out W2 x hx (B_4.out.trans (h2.mono B_4.out.size)))).mono ?_); rw [c3]; rintro e w5 ⟨rfl, hb⟩; clear cP0 cP1 cP2; have B_5 := Aside0.mk (below_step B_4.out hb); have P_5 := Aside0.mk (blk_below P_4.out hb); clear P_4; have cP0 := (blk_cell P_5.out 0).trans rfl; have cP1 := (blk_cell P_5.out 1).trans rfl; have cP2 := (blk_cell P_5.out 2).trans rfl; clear hb))
      go_ret
      exact ⟨rfl, B_5.out⟩
     ·rw [if_pos (show true ≠ false by decide)]
      go_enter Try.func42, Try.ntmps42
      go_wp2_with (first | ((with_reducible refine gate_dst (N := 9) rfl ?_); refine box_event ?hg (N := 9) ?hd (cs := #[.int .u32 (X : Int), .int .u32 (B : Int), .bool true]) (t := 32) ?hr ?_; (case hd => rfl); (case hg => rfl); (case hr => first | (go_simp; done) | (go_simp; rfl)); intro gp hg_ w1 hm_ hb_; have GP := Aside0.mk (show w.heap.size ≤ gp by rw [hg_]; exact B_0.out.size); have B_1 := Aside0.mk (below_step B_0.out hb_); have P_1 := Aside0.mk (hm_); have cP0 := (blk_cell P_1.out 0).trans rfl; have cP1 := (blk_cell P_1.out 1).trans rfl; have cP2 := (blk_cell P_1.out 2).trans rfl; clear hm_ hb_ hg_) | (go_at_call 44; (with_reducible refine (IsNaN_calls y HY.out _).mono ?_); rw [c0]; rintro e w2 ⟨rfl, hb⟩; clear cP0 cP1 cP2; have B_2 := Aside0.mk (below_step B_1.out hb); have P_2 := Aside0.mk (blk_below P_1.out hb); clear P_1; have cP0 := (blk_cell P_2.out 0).trans rfl; have cP1 := (blk_cell P_2.out 1).trans rfl; have cP2 := (blk_cell P_2.out 2).trans rfl; clear hb) | (go_at_call 59; (with_reducible refine (Before_calls X lo HX.out HLO.out _).mono ?_); rw [c1]; rintro e w3 ⟨rfl, hd⟩; have hb := hd.below; clear hd; clear cP0 cP1 cP2; have B_3 := Aside0.mk (below_step B_2.out hb); have P_3 := Aside0.mk (blk_below P_2.out hb); clear P_2; have cP0 := (blk_cell P_3.out 0).trans rfl; have cP1 := (blk_cell P_3.out 1).trans rfl; have cP2 := (blk_cell P_3.out 2).trans rfl; clear hb) | (go_at_call 59; (with_reducible refine (Before_calls hi X HHI.out HX.out _).mono ?_); rw [c2]; rintro e w4 ⟨rfl, hd⟩; have hb := hd.below; clear hd; clear cP0 cP1 cP2; have B_4 := Aside0.mk (below_step B_3.out hb); have P_4 := Aside0.mk (blk_below P_3.out hb); clear P_3; have cP0 := (blk_cell P_4.out 0).trans rfl; have cP1 := (blk_cell P_4.out 1).trans rfl; have cP2 := (blk_cell P_4.out 2).trans rfl; clear hb) | (go_at_call 60; (with_reducible refine (reachesc_calls g X y F _ HX.out HY.out HF.out (fun W2 x hx h2 => HA.out W2 x hx (B_4.out.trans (h2.mono B_4.out.size)))).mono ?_); rw [c3]; rintro e w5 ⟨rfl, hb⟩; clear cP0 cP1 cP2; have B_5 := Aside0.mk (below_step B_4.out hb); have P_5 := Aside0.mk (blk_below P_4.out hb); clear P_4; have cP0 := (blk_cell P_5.out 0).trans rfl; have cP1 := (blk_cell P_5.out 1).trans rfl; have cP2 := (blk_cell P_5.out 2).trans rfl; clear hb))
      go_ret
      exact ⟨rfl, B_5.out⟩
     ·rw [if_pos (show false ≠ true by decide)]
      go_enter Try.func42, Try.ntmps42
      go_wp2_with (first | ((with_reducible refine gate_dst (N := 9) rfl ?_); refine box_event ?hg (N := 9) ?hd (cs := #[.int .u32 (X : Int), .int .u32 (B : Int), .bool false]) (t := 32) ?hr ?_; (case hd => rfl); (case hg => rfl); (case hr => first | (go_simp; done) | (go_simp; rfl)); intro gp hg_ w1 hm_ hb_; have GP := Aside0.mk (show w.heap.size ≤ gp by rw [hg_]; exact B_0.out.size); have B_1 := Aside0.mk (below_step B_0.out hb_); have P_1 := Aside0.mk (hm_); have cP0 := (blk_cell P_1.out 0).trans rfl; have cP1 := (blk_cell P_1.out 1).trans rfl; have cP2 := (blk_cell P_1.out 2).trans rfl; clear hm_ hb_ hg_) | (go_at_call 44; (with_reducible refine (IsNaN_calls y HY.out _).mono ?_); rw [c0]; rintro e w2 ⟨rfl, hb⟩; clear cP0 cP1 cP2; have B_2 := Aside0.mk (below_step B_1.out hb); have P_2 := Aside0.mk (blk_below P_1.out hb); clear P_1; have cP0 := (blk_cell P_2.out 0).trans rfl; have cP1 := (blk_cell P_2.out 1).trans rfl; have cP2 := (blk_cell P_2.out 2).trans rfl; clear hb) | (go_at_call 59; (with_reducible refine (Before_calls X lo HX.out HLO.out _).mono ?_); rw [c1]; rintro e w3 ⟨rfl, hd⟩; have hb := hd.below; clear hd; clear cP0 cP1 cP2; have B_3 := Aside0.mk (below_step B_2.out hb); have P_3 := Aside0.mk (blk_below P_2.out hb); clear P_2; have cP0 := (blk_cell P_3.out 0).trans rfl; have cP1 := (blk_cell P_3.out 1).trans rfl; have cP2 := (blk_cell P_3.out 2).trans rfl; clear hb) | (go_at_call 59; (with_reducible refine (Before_calls hi X HHI.out HX.out _).mono ?_); rw [c2]; rintro e w4 ⟨rfl, hd⟩; have hb := hd.below; clear hd; clear cP0 cP1 cP2; have B_4 := Aside0.mk (below_step B_3.out hb); have P_4 := Aside0.mk (blk_below P_3.out hb); clear P_3; have cP0 := (blk_cell P_4.out 0).trans rfl; have cP1 := (blk_cell P_4.out 1).trans rfl; have cP2 := (blk_cell P_4.out 2).trans rfl; clear hb) | (go_at_call 60; (with_reducible refine (reachesc_calls g X y F _ HX.out HY.out HF.out (fun W2 x hx h2 => HA.out W2 x hx (B_4.out.trans (h2.mono B_4.out.size)))).mono ?_); rw [c3]; rintro e w5 ⟨rfl, hb⟩; clear cP0 cP1 cP2; have B_5 := Aside0.mk (below_step B_4.out hb); have P_5 := Aside0.mk (blk_below P_4.out hb); clear P_4; have cP0 := (blk_cell P_5.out 0).trans rfl; have cP1 := (blk_cell P_5.out 1).trans rfl; have cP2 := (blk_cell P_5.out 2).trans rfl; clear hb))
      go_ret
      exact ⟨rfl, B_5.out⟩
     ·rw [if_neg (show ¬ (true ≠ true) from fun h => h rfl), if_neg (show ¬ (true = false) by decide)]
      obtain ⟨q, hq⟩ : ∃ q, (if kf X = 0 then 0 else fk (kf X - 1)) = q := ⟨_, rfl⟩
      have HQ : Aside0 (q < 4294967296) := ⟨by
       rw [← hq]
       have := kf_word HX.out
       split
       ·decide
       ·exact fk_word (by omega)⟩
      have hpv := hq
      rw [hq]
      have e4 : ((B : Int) == (q : Int)) = decide (B = q) := by rw [Bool.eq_iff_iff, beq_iff_eq, decide_eq_true_iff]; omega
      rw [← e4]
      clear e4 hq
      obtain ⟨t1, h1⟩ : ∃ t, decide (kf X ≠ 0) = t := ⟨_, rfl⟩
      obtain ⟨t2, h2⟩ : ∃ t, ((B : Int) == (q : Int)) = t := ⟨_, rfl⟩
      rw [h1, h2]
      cases t1
      ·go_enter Try.func42, Try.ntmps42
       go_wp2_with (first | ((with_reducible refine gate_dst (N := 9) rfl ?_); refine box_event ?hg (N := 9) ?hd (cs := #[.int .u32 (X : Int), .int .u32 (B : Int), .bool true]) (t := 32) ?hr ?_; (case hd => rfl); (case hg => rfl); (case hr => first | (go_simp; done) | (go_simp; rfl)); intro gp hg_ w1 hm_ hb_; have GP := Aside0.mk (show w.heap.size ≤ gp by rw [hg_]; exact B_0.out.size); have B_1 := Aside0.mk (below_step B_0.out hb_); have P_1 := Aside0.mk (hm_); have cP0 := (blk_cell P_1.out 0).trans rfl; have cP1 := (blk_cell P_1.out 1).trans rfl; have cP2 := (blk_cell P_1.out 2).trans rfl; clear hm_ hb_ hg_) | (go_at_call 44; (with_reducible refine (IsNaN_calls y HY.out _).mono ?_); rw [c0]; rintro e w2 ⟨rfl, hb⟩; clear cP0 cP1 cP2; have B_2 := Aside0.mk (below_step B_1.out hb); have P_2 := Aside0.mk (blk_below P_1.out hb); clear P_1; have cP0 := (blk_cell P_2.out 0).trans rfl; have cP1 := (blk_cell P_2.out 1).trans rfl; have cP2 := (blk_cell P_2.out 2).trans rfl; clear hb) | (go_at_call 59; (with_reducible refine (Before_calls X lo HX.out HLO.out _).mono ?_); rw [c1]; rintro e w3 ⟨rfl, hd⟩; have hb := hd.below; clear hd; clear cP0 cP1 cP2; have B_3 := Aside0.mk (below_step B_2.out hb); have P_3 := Aside0.mk (blk_below P_2.out hb); clear P_2; have cP0 := (blk_cell P_3.out 0).trans rfl; have cP1 := (blk_cell P_3.out 1).trans rfl; have cP2 := (blk_cell P_3.out 2).trans rfl; clear hb) | (go_at_call 59; (with_reducible refine (Before_calls hi X HHI.out HX.out _).mono ?_); rw [c2]; rintro e w4 ⟨rfl, hd⟩; have hb := hd.below; clear hd; clear cP0 cP1 cP2; have B_4 := Aside0.mk (below_step B_3.out hb); have P_4 := Aside0.mk (blk_below P_3.out hb); clear P_3; have cP0 := (blk_cell P_4.out 0).trans rfl; have cP1 := (blk_cell P_4.out 1).trans rfl; have cP2 := (blk_cell P_4.out 2).trans rfl; clear hb) | (go_at_call 60; (with_reducible refine (reachesc_calls g X y F _ HX.out HY.out HF.out (fun W2 x hx h2 => HA.out W2 x hx (B_4.out.trans (h2.mono B_4.out.size)))).mono ?_); rw [c3]; rintro e w5 ⟨rfl, hb⟩; clear cP0 cP1 cP2; have B_5 := Aside0.mk (below_step B_4.out hb); have P_5 := Aside0.mk (blk_below P_4.out hb); clear P_4; have cP0 := (blk_cell P_5.out 0).trans rfl; have cP1 := (blk_cell P_5.out 1).trans rfl; have cP2 := (blk_cell P_5.out 2).trans rfl; clear hb) | (go_at_call 58; (with_reducible refine (Prev_calls X HX.out _).mono ?_); rw [hpv]; rintro e w6 ⟨rfl, hd⟩; have hb := hd.below; clear hd; clear cP0 cP1 cP2; have B_6 := Aside0.mk (below_step B_5.out hb); have P_6 := Aside0.mk (blk_below P_5.out hb); clear P_5; have cP0 := (blk_cell P_6.out 0).trans rfl; have cP1 := (blk_cell P_6.out 1).trans rfl; have cP2 := (blk_cell P_6.out 2).trans rfl; clear hb))
       go_ret
       exact ⟨rfl, B_6.out⟩
      cases t2
      ·go_enter Try.func42, Try.ntmps42
       go_wp2_with (first | ((with_reducible refine gate_dst (N := 9) rfl ?_); refine box_event ?hg (N := 9) ?hd (cs := #[.int .u32 (X : Int), .int .u32 (B : Int), .bool true]) (t := 32) ?hr ?_; (case hd => rfl); (case hg => rfl); (case hr => first | (go_simp; done) | (go_simp; rfl)); intro gp hg_ w1 hm_ hb_; have GP := Aside0.mk (show w.heap.size ≤ gp by rw [hg_]; exact B_0.out.size); have B_1 := Aside0.mk (below_step B_0.out hb_); have P_1 := Aside0.mk (hm_); have cP0 := (blk_cell P_1.out 0).trans rfl; have cP1 := (blk_cell P_1.out 1).trans rfl; have cP2 := (blk_cell P_1.out 2).trans rfl; clear hm_ hb_ hg_) | (go_at_call 44; (with_reducible refine (IsNaN_calls y HY.out _).mono ?_); rw [c0]; rintro e w2 ⟨rfl, hb⟩; clear cP0 cP1 cP2; have B_2 := Aside0.mk (below_step B_1.out hb); have P_2 := Aside0.mk (blk_below P_1.out hb); clear P_1; have cP0 := (blk_cell P_2.out 0).trans rfl; have cP1 := (blk_cell P_2.out 1).trans rfl; have cP2 := (blk_cell P_2.out 2).trans rfl; clear hb) | (go_at_call 59; (with_reducible refine (Before_calls X lo HX.out HLO.out _).mono ?_); rw [c1]; rintro e w3 ⟨rfl, hd⟩; have hb := hd.below; clear hd; clear cP0 cP1 cP2; have B_3 := Aside0.mk (below_step B_2.out hb); have P_3 := Aside0.mk (blk_below P_2.out hb); clear P_2; have cP0 := (blk_cell P_3.out 0).trans rfl; have cP1 := (blk_cell P_3.out 1).trans rfl; have cP2 := (blk_cell P_3.out 2).trans rfl; clear hb) | (go_at_call 59; (with_reducible refine (Before_calls hi X HHI.out HX.out _).mono ?_); rw [c2]; rintro e w4 ⟨rfl, hd⟩; have hb := hd.below; clear hd; clear cP0 cP1 cP2; have B_4 := Aside0.mk (below_step B_3.out hb); have P_4 := Aside0.mk (blk_below P_3.out hb); clear P_3; have cP0 := (blk_cell P_4.out 0).trans rfl; have cP1 := (blk_cell P_4.out 1).trans rfl; have cP2 := (blk_cell P_4.out 2).trans rfl; clear hb) | (go_at_call 60; (with_reducible refine (reachesc_calls g X y F _ HX.out HY.out HF.out (fun W2 x hx h2 => HA.out W2 x hx (B_4.out.trans (h2.mono B_4.out.size)))).mono ?_); rw [c3]; rintro e w5 ⟨rfl, hb⟩; clear cP0 cP1 cP2; have B_5 := Aside0.mk (below_step B_4.out hb); have P_5 := Aside0.mk (blk_below P_4.out hb); clear P_4; have cP0 := (blk_cell P_5.out 0).trans rfl; have cP1 := (blk_cell P_5.out 1).trans rfl; have cP2 := (blk_cell P_5.out 2).trans rfl; clear hb) | (go_at_call 58; (with_reducible refine (Prev_calls X HX.out _).mono ?_); rw [hpv]; rintro e w6 ⟨rfl, hd⟩; have hb := hd.below; clear hd; clear cP0 cP1 cP2; have B_6 := Aside0.mk (below_step B_5.out hb); have P_6 := Aside0.mk (blk_below P_5.out hb); clear P_5; have cP0 := (blk_cell P_6.out 0).trans rfl; have cP1 := (blk_cell P_6.out 1).trans rfl; have cP2 := (blk_cell P_6.out 2).trans rfl; clear hb))
       go_ret
       exact ⟨rfl, B_6.out⟩
      cases c5 : rch F q y
      ·go_enter Try.func42, Try.ntmps42
       go_wp2_with (first | ((with_reducible refine gate_dst (N := 9) rfl ?_); refine box_event ?hg (N := 9) ?hd (cs := #[.int .u32 (X : Int), .int .u32 (B : Int), .bool true]) (t := 32) ?hr ?_; (case hd => rfl); (case hg => rfl); (case hr => first | (go_simp; done) | (go_simp; rfl)); intro gp hg_ w1 hm_ hb_; have GP := Aside0.mk (show w.heap.size ≤ gp by rw [hg_]; exact B_0.out.size); have B_1 := Aside0.mk (below_step B_0.out hb_); have P_1 := Aside0.mk (hm_); have cP0 := (blk_cell P_1.out 0).trans rfl; have cP1 := (blk_cell P_1.out 1).trans rfl; have cP2 := (blk_cell P_1.out 2).trans rfl; clear hm_ hb_ hg_) | (go_at_call 44; (with_reducible refine (IsNaN_calls y HY.out _).mono ?_); rw [c0]; rintro e w2 ⟨rfl, hb⟩; clear cP0 cP1 cP2; have B_2 := Aside0.mk (below_step B_1.out hb); have P_2 := Aside0.mk (blk_below P_1.out hb); clear P_1; have cP0 := (blk_cell P_2.out 0).trans rfl; have cP1 := (blk_cell P_2.out 1).trans rfl; have cP2 := (blk_cell P_2.out 2).trans rfl; clear hb) | (go_at_call 59; (with_reducible refine (Before_calls X lo HX.out HLO.out _).mono ?_); rw [c1]; rintro e w3 ⟨rfl, hd⟩; have hb := hd.below; clear hd; clear cP0 cP1 cP2; have B_3 := Aside0.mk (below_step B_2.out hb); have P_3 := Aside0.mk (blk_below P_2.out hb); clear P_2; have cP0 := (blk_cell P_3.out 0).trans rfl; have cP1 := (blk_cell P_3.out 1).trans rfl; have cP2 := (blk_cell P_3.out 2).trans rfl; clear hb) | (go_at_call 59; (with_reducible refine (Before_calls hi X HHI.out HX.out _).mono ?_); rw [c2]; rintro e w4 ⟨rfl, hd⟩; have hb := hd.below; clear hd; clear cP0 cP1 cP2; have B_4 := Aside0.mk (below_step B_3.out hb); have P_4 := Aside0.mk (blk_below P_3.out hb); clear P_3; have cP0 := (blk_cell P_4.out 0).trans rfl; have cP1 := (blk_cell P_4.out 1).trans rfl; have cP2 := (blk_cell P_4.out 2).trans rfl; clear hb) | (go_at_call 60; (with_reducible refine (reachesc_calls g X y F _ HX.out HY.out HF.out (fun W2 x hx h2 => HA.out W2 x hx (B_4.out.trans (h2.mono B_4.out.size)))).mono ?_); rw [c3]; rintro e w5 ⟨rfl, hb⟩; clear cP0 cP1 cP2; have B_5 := Aside0.mk (below_step B_4.out hb); have P_5 := Aside0.mk (blk_below P_4.out hb); clear P_4; have cP0 := (blk_cell P_5.out 0).trans rfl; have cP1 := (blk_cell P_5.out 1).trans rfl; have cP2 := (blk_cell P_5.out 2).trans rfl; clear hb) | (go_at_call 58; (with_reducible refine (Prev_calls X HX.out _).mono ?_); rw [hpv]; rintro e w6 ⟨rfl, hd⟩; have hb := hd.below; clear hd; clear cP0 cP1 cP2; have B_6 := Aside0.mk (below_step B_5.out hb); have P_6 := Aside0.mk (blk_below P_5.out hb); clear P_5; have cP0 := (blk_cell P_6.out 0).trans rfl; have cP1 := (blk_cell P_6.out 1).trans rfl; have cP2 := (blk_cell P_6.out 2).trans rfl; clear hb) | (go_at_call 60; (with_reducible refine (reachesc_calls g q y F _ HQ.out HY.out HF.out (fun W2 x hx h2 => HA.out W2 x hx (B_6.out.trans (h2.mono B_6.out.size)))).mono ?_); rw [c5]; rintro e w7 ⟨rfl, hb⟩; clear cP0 cP1 cP2; have B_7 := Aside0.mk (below_step B_6.out hb); have P_7 := Aside0.mk (blk_below P_6.out hb); clear P_6; have cP0 := (blk_cell P_7.out 0).trans rfl; have cP1 := (blk_cell P_7.out 1).trans rfl; have cP2 := (blk_cell P_7.out 2).trans rfl; clear hb))
       go_ret
       exact ⟨rfl, B_7.out⟩
      ·go_enter Try.func42, Try.ntmps42
       go_wp2_with (first | ((with_reducible refine gate_dst (N := 9) rfl ?_); refine box_event ?hg (N := 9) ?hd (cs := #[.int .u32 (X : Int), .int .u32 (B : Int), .bool true]) (t := 32) ?hr ?_; (case hd => rfl); (case hg => rfl); (case hr => first | (go_simp; done) | (go_simp; rfl)); intro gp hg_ w1 hm_ hb_; have GP := Aside0.mk (show w.heap.size ≤ gp by rw [hg_]; exact B_0.out.size); have B_1 := Aside0.mk (below_step B_0.out hb_); have P_1 := Aside0.mk (hm_); have cP0 := (blk_cell P_1.out 0).trans rfl; have cP1 := (blk_cell P_1.out 1).trans rfl; have cP2 := (blk_cell P_1.out 2).trans rfl; clear hm_ hb_ hg_) | (go_at_call 44; (with_reducible refine (IsNaN_calls y HY.out _).mono ?_); rw [c0]; rintro e w2 ⟨rfl, hb⟩; clear cP0 cP1 cP2; have B_2 := Aside0.mk (below_step B_1.out hb); have P_2 := Aside0.mk (blk_below P_1.out hb); clear P_1; have cP0 := (blk_cell P_2.out 0).trans rfl; have cP1 := (blk_cell P_2.out 1).trans rfl; have cP2 := (blk_cell P_2.out 2).trans rfl; clear hb) | (go_at_call 59; (with_reducible refine (Before_calls X lo HX.out HLO.out _).mono ?_); rw [c1]; rintro e w3 ⟨rfl, hd⟩; have hb := hd.below; clear hd; clear cP0 cP1 cP2; have B_3 := Aside0.mk (below_step B_2.out hb); have P_3 := Aside0.mk (blk_below P_2.out hb); clear P_2; have cP0 := (blk_cell P_3.out 0).trans rfl; have cP1 := (blk_cell P_3.out 1).trans rfl; have cP2 := (blk_cell P_3.out 2).trans rfl; clear hb) | (go_at_call 59; (with_reducible refine (Before_calls hi X HHI.out HX.out _).mono ?_); rw [c2]; rintro e w4 ⟨rfl, hd⟩; have hb := hd.below; clear hd; clear cP0 cP1 cP2; have B_4 := Aside0.mk (below_step B_3.out hb); have P_4 := Aside0.mk (blk_below P_3.out hb); clear P_3; have cP0 := (blk_cell P_4.out 0).trans rfl; have cP1 := (blk_cell P_4.out 1).trans rfl; have cP2 := (blk_cell P_4.out 2).trans rfl; clear hb) | (go_at_call 60; (with_reducible refine (reachesc_calls g X y F _ HX.out HY.out HF.out (fun W2 x hx h2 => HA.out W2 x hx (B_4.out.trans (h2.mono B_4.out.size)))).mono ?_); rw [c3]; rintro e w5 ⟨rfl, hb⟩; clear cP0 cP1 cP2; have B_5 := Aside0.mk (below_step B_4.out hb); have P_5 := Aside0.mk (blk_below P_4.out hb); clear P_4; have cP0 := (blk_cell P_5.out 0).trans rfl; have cP1 := (blk_cell P_5.out 1).trans rfl; have cP2 := (blk_cell P_5.out 2).trans rfl; clear hb) | (go_at_call 58; (with_reducible refine (Prev_calls X HX.out _).mono ?_); rw [hpv]; rintro e w6 ⟨rfl, hd⟩; have hb := hd.below; clear hd; clear cP0 cP1 cP2; have B_6 := Aside0.mk (below_step B_5.out hb); have P_6 := Aside0.mk (blk_below P_5.out hb); clear P_5; have cP0 := (blk_cell P_6.out 0).trans rfl; have cP1 := (blk_cell P_6.out 1).trans rfl; have cP2 := (blk_cell P_6.out 2).trans rfl; clear hb) | (go_at_call 60; (with_reducible refine (reachesc_calls g q y F _ HQ.out HY.out HF.out (fun W2 x hx h2 => HA.out W2 x hx (B_6.out.trans (h2.mono B_6.out.size)))).mono ?_); rw [c5]; rintro e w7 ⟨rfl, hb⟩; clear cP0 cP1 cP2; have B_7 := Aside0.mk (below_step B_6.out hb); have P_7 := Aside0.mk (blk_below P_6.out hb); clear P_6; have cP0 := (blk_cell P_7.out 0).trans rfl; have cP1 := (blk_cell P_7.out 1).trans rfl; have cP2 := (blk_cell P_7.out 2).trans rfl; clear hb))
       go_ret
       exact ⟨rfl, B_7.out⟩
  refine main _ rfl ?_
  by_cases h : X = lo
  ·rw [h, decide_eq_false (fun h => h rfl)]; exact (bne_self_eq_false _).symm
  ·rw [decide_eq_true h]; symm; exact bne_iff_ne.mpr (by omega)
 ·rw [if_pos rfl]
  go_enter Try.func42, Try.ntmps42
  go_wp2_with (first | ((with_reducible refine gate_dst (N := 9) rfl ?_); refine box_event ?hg (N := 9) ?hd (cs := #[.int .u32 (X : Int), .int .u32 (B : Int), .bool H]) (t := 32) ?hr ?_; (case hd => rfl); (case hg => rfl); (case hr => first | (go_simp; done) | (go_simp; rfl)); intro gp hg_ w1 hm_ hb_; have GP := Aside0.mk (show w.heap.size ≤ gp by rw [hg_]; exact B_0.out.size); have B_1 := Aside0.mk (below_step B_0.out hb_); have P_1 := Aside0.mk (hm_); have cP0 := (blk_cell P_1.out 0).trans rfl; have cP1 := (blk_cell P_1.out 1).trans rfl; have cP2 := (blk_cell P_1.out 2).trans rfl; clear hm_ hb_ hg_) | (go_at_call 44; (with_reducible refine (IsNaN_calls y HY.out _).mono ?_); rw [c0]; rintro e w2 ⟨rfl, hb⟩; clear cP0 cP1 cP2; have B_2 := Aside0.mk (below_step B_1.out hb); have P_2 := Aside0.mk (blk_below P_1.out hb); clear P_1; have cP0 := (blk_cell P_2.out 0).trans rfl; have cP1 := (blk_cell P_2.out 1).trans rfl; have cP2 := (blk_cell P_2.out 2).trans rfl; clear hb))
  go_ret
  exact ⟨rfl, B_2.out⟩
end Go.Proofs.Ytkicfaboibfbpaa.A
end
section
set_option linter.unusedVariables false
set_option linter.unusedSimpArgs false
namespace Go.Proofs.Ytkicfaboibfbpaa.A
open Go.RowKit Go.Proofs.YtkicfaboibfbpaaW.PrintWords Go.Proofs.YtkicfaboibfbpaaW.PrintLast Go.Proofs.YtkicfaboibfbpaaW.PrintMore Go.Proofs.Ytkicfaboibfbpaa.PCurveAts
/-- the error of Least -/
def lerr (F : Nat → Nat) (hi y : Nat) : Nat := if noY F hi y = true then 43 else 0
theorem firstc_calls (g lo hi y : Nat) (F : Nat → Nat) (w : World) (hF : Ris F) (hlo : lo < 4294967296) (hhi : hi < 4294967296) (hy : y < 4294967296) (n1 : isnan lo = false) (n2 : isnan hi = false) (hk : kf lo ≤ kf hi) (hA : ∀ (W : World) (x : Nat), x < 4294967296 → Below w.heap.size w W → Calls Try.prog 17 #[.pointer (some ⟨g, 0, none⟩), .int .u32 (x : Int)] W fun e w' => e = .returned (.int .u32 ((F x : Nat) : Int)) ∧ Below W.heap.size W w') :
    Calls Try.prog 41 #[.iface 26 (.pointer (some ⟨g, 0, none⟩)), .int .u32 (lo : Int), .int .u32 (hi : Int), .int .u32 (y : Int)] w fun e w' => e = .returned (.tuple #[.agg #[.int .u32 ((lst F lo hi y).X : Int), .int .u32 ((lst F lo hi y).B : Int), .bool (lst F lo hi y).H], .int .i64 ((lerr F hi y : Nat) : Int)]) ∧ Below w.heap.size w w' := by
 unfold lerr
 cases hno : noY F hi y
 ·rw [if_neg (by decide)]
  have h := hno
  unfold noY at h
  rw [Bool.or_eq_false_iff] at h
  have hw := kf_word hhi
  have hu : ∀ r, Srch (fun i => !lt (F (fk (kf lo + i))) y) (kf hi - kf lo) r → r = lstN F lo hi y := fun r hr => srch_uniq (fun i j hij hj hp => rs_mono hF hlo hhi n1 n2 hk hy h.1 i j hij (Nat.le_of_lt hj) hp) hr (fs_srch _ _)
  have hs := (lst_X hF hlo hhi n1 n2 hk y hno).2.1
  by_cases h0 : lstN F lo hi y = 0
  ·rw [lst_0 hno h0]
   have := first_zeroc g lo hi y F w hlo hhi hy hF.word hA h.1 h.2 hk 0 rfl (Nat.zero_le _) (fun r hr => (hu r hr).trans h0)
   rw [Nat.add_zero, fk_kf' hlo] at this
   exact this
  ·rw [lst_n hno h0]
   exact first_posc g lo hi y F w hlo hhi hy hF.word hA h.1 h.2 hk _ h0 hs hu
 ·rw [if_pos rfl, lst_no hno]
  unfold noY at hno
  cases h0 : isnan y
  ·rw [h0, Bool.false_or] at hno
   exact first_farc g lo hi y F w hlo hhi hy hF.word hA h0 hno
  ·exact first_nanc g lo hi y F w hlo hhi hy hF.word hA h0
/-- the ends of a curve -/
def lo0 (l : List (Nat × Nat)) : Nat := (gk l 0).1
def hi0 (l : List (Nat × Nat)) : Nat := (gk l (l.length - 1)).1
section
variable {l : List (Nat × Nat)} (hv : Val l)
include hv
theorem ends_ok : lo0 l < 4294967296 ∧ hi0 l < 4294967296 ∧ isnan (lo0 l) = false ∧ isnan (hi0 l) = false ∧ kf (lo0 l) ≤ kf (hi0 l) := by
 have two := hv.two
 have h := lt_pz (hv.mono (i := 0) (j := l.length - 1) (by omega) (by omega))
 refine ⟨(gk_ok hv.ok 0).1, (gk_ok hv.ok _).1, h.1, h.2.1, ?_⟩
 have a := (gk_ok hv.ok 0).1
 have b := (gk_ok hv.ok (l.length - 1)).1
 have h2 := h.2.2
 unfold lo0 hi0 kf
 unfold pz at h2
 generalize (gk l 0).1 = u at *
 generalize (gk l (l.length - 1)).1 = v at *
 clear h
 by_cases c1 : u < 2147483648
 ·by_cases c2 : v < 2147483648
  ·rw [if_pos c1, if_pos c2] at *; omega
  ·rw [if_pos c1, if_neg c2] at *; omega
 ·by_cases c2 : v < 2147483648
  ·rw [if_neg c1, if_pos c2] at *; omega
  ·rw [if_neg c1, if_neg c2] at *; omega
end
set_option maxHeartbeats 2000000 in
theorem Leastc_calls (g : Nat) (A : Option Addr) (c : Nat) (l : List (Nat × Nat)) (hv : Val l) (w : World) (hC : CvB w g A c l) (y : Nat) (hy : y < 4294967296) :
    Calls Try.prog 13 #[.pointer (some ⟨g, 0, none⟩), .int .u32 (y : Int)] w fun e w' => e = .returned (.tuple #[.agg #[.int .u32 ((lst (atP l) (lo0 l) (hi0 l) y).X : Int), .int .u32 ((lst (atP l) (lo0 l) (hi0 l) y).B : Int), .bool (lst (atP l) (lo0 l) (hi0 l) y).H], .int .i64 ((lerr (atP l) (hi0 l) y : Nat) : Int)]) ∧ Below w.heap.size w w' := by
 have RF := ris_at hv
 have EN := ends_ok hv
 have HC : Aside0 (CvB w g A c l) := ⟨hC⟩
 have HV := Aside0.mk hv
 obtain ⟨F, hF⟩ : ∃ F, atP l = F := ⟨_, rfl⟩
 obtain ⟨lo, hlo⟩ : ∃ u, lo0 l = u := ⟨_, rfl⟩
 obtain ⟨hi, hhi⟩ : ∃ u, hi0 l = u := ⟨_, rfl⟩
 rw [hF, hlo, hhi]
 rw [hF] at RF
 rw [hlo, hhi] at EN
 obtain ⟨⟨pX, pB, pH⟩, hp⟩ : ∃ p, lst F lo hi y = p := ⟨_, rfl⟩
 obtain ⟨pe, hpe⟩ : ∃ n, lerr F hi y = n := ⟨_, rfl⟩
 rw [hp, hpe]
 have HFI : Aside0 (∀ W, Below w.heap.size w W → Calls Try.prog 41 #[.iface 26 (.pointer (some ⟨g, 0, none⟩)), .int .u32 (lo : Int), .int .u32 (hi : Int), .int .u32 (y : Int)] W fun e w' => e = .returned (.tuple #[.agg #[.int .u32 (pX : Int), .int .u32 (pB : Int), .bool pH], .int .i64 (pe : Int)]) ∧ Below W.heap.size W w') := ⟨fun W hb => by
  have := firstc_calls g lo hi y F W RF EN.1 EN.2.1 hy EN.2.2.1 EN.2.2.2.1 EN.2.2.2.2 (fun W2 x hx h2 => by rw [← hF]; exact At_calls g A c l hv x hx W2 ((hC.below hb).below h2))
  rw [hp, hpe] at this
  exact this⟩
 have B_0 : Aside0 (Below w.heap.size w w) := ⟨Below.refl _ _⟩
 have HLO := Aside0.mk hlo
 have HHI := Aside0.mk hhi
 unfold lo0 at HLO
 unfold hi0 at HHI
 clear hC hv hF hlo hhi hy RF EN hp hpe
 go_enter Try.func13, Try.ntmps13
 go_wp2_with (first | ((with_reducible refine gate_dst (N := 4) rfl ?_); refine box_event ?hg (N := 4) ?hd (cs := #[.int .u32 0, .int .u32 0, .bool false]) (t := 32) ?hr ?_; (case hd => rfl); (case hg => rfl); (case hr => first | (go_simp; done) | (go_simp; rfl)); intro gr hg_ w1 hm_ hb_; have GR := Aside0.mk (show w.heap.size ≤ gr by rw [hg_]; exact B_0.out.size); have B_1 := Aside0.mk (below_step B_0.out hb_); have R_1 := Aside0.mk (hm_); clear hm_ hb_ hg_) | (go_at_call 40; (with_reducible refine (ends_calls g A c l HV.out _ (HC.out.below B_1.out)).mono ?_); rw [HLO.out, HHI.out]; rintro e w2 ⟨rfl, hb⟩; have B_2 := Aside0.mk (below_step B_1.out hb); have R_2 := Aside0.mk (blk_below R_1.out hb); clear R_1; clear hb) | (go_at_call 41; (with_reducible refine (HFI.out _ B_2.out).mono ?_); rintro e w3 ⟨rfl, hb⟩; have B_3 := Aside0.mk (below_step B_2.out hb); have R_3 := Aside0.mk (blk_below R_2.out hb); clear R_2; clear hb) | ((with_reducible refine gate_store (p := 4) rfl ?_); refine store_event rfl rfl rfl gr #[.int .u32 (pX : Int), .int .u32 (pB : Int), .bool pH] _ 32 rfl rfl R_3.out size32 rfl (by simp [Value.oneCell']) ?_; intro w4 hm_ hst_ hbl_; have B_4 := Aside0.mk (B_3.out.trans (hbl_ _ GR.out)); have R_4 := Aside0.mk (hm_); clear R_3 hm_ hst_ hbl_))
 refine bodyPost_ret (results_ct rfl _ _ gr 32 #[.int .u32 (pX : Int), .int .u32 (pB : Int), .bool pH] (0, 0) _ rfl R_4.out Try.underlying32 rfl (by kernel_rfl)) rfl ?_
 exact ⟨rfl, B_4.out⟩
set_option maxHeartbeats 2000000 in
theorem Checkc_calls (g : Nat) (A : Option Addr) (c : Nat) (l : List (Nat × Nat)) (hv : Val l) (w : World) (hC : CvB w g A c l) (y X B : Nat) (H : Bool) (hy : y < 4294967296) (hX : X < 4294967296) :
    Calls Try.prog 14 #[.pointer (some ⟨g, 0, none⟩), .int .u32 (y : Int), .agg #[.int .u32 (X : Int), .int .u32 (B : Int), .bool H]] w fun e w' => e = .returned (.bool (ckP (atP l) (lo0 l) (hi0 l) y ⟨X, B, H⟩)) ∧ Below w.heap.size w w' := by
 have RF := ris_at hv
 have EN := ends_ok hv
 have HC : Aside0 (CvB w g A c l) := ⟨hC⟩
 have HV := Aside0.mk hv
 obtain ⟨F, hF⟩ : ∃ F, atP l = F := ⟨_, rfl⟩
 obtain ⟨lo, hlo⟩ : ∃ u, lo0 l = u := ⟨_, rfl⟩
 obtain ⟨hi, hhi⟩ : ∃ u, hi0 l = u := ⟨_, rfl⟩
 rw [hF, hlo, hhi]
 rw [hF] at RF
 rw [hlo, hhi] at EN
 have HFI : Aside0 (∀ W, Below w.heap.size w W → Calls Try.prog 42 #[.iface 26 (.pointer (some ⟨g, 0, none⟩)), .int .u32 (lo : Int), .int .u32 (hi : Int), .int .u32 (y : Int), .agg #[.int .u32 (X : Int), .int .u32 (B : Int), .bool H]] W fun e w' => e = .returned (.bool (ckP F lo hi y ⟨X, B, H⟩)) ∧ Below W.heap.size W w') := ⟨fun W hb => by
  exact provedc_calls g lo hi y X B H F W EN.1 EN.2.1 hy hX RF.word (fun W2 x hx h2 => by rw [← hF]; exact At_calls g A c l hv x hx W2 ((hC.below hb).below h2))⟩
 have B_0 : Aside0 (Below w.heap.size w w) := ⟨Below.refl _ _⟩
 have HLO := Aside0.mk hlo
 have HHI := Aside0.mk hhi
 unfold lo0 at HLO
 unfold hi0 at HHI
 clear hC hv hF hlo hhi hy hX RF EN
 go_enter Try.func14, Try.ntmps14
 go_wp2_with (first | ((with_reducible refine gate_dst (N := 5) rfl ?_); refine box_event ?hg (N := 5) ?hd (cs := #[.int .u32 (X : Int), .int .u32 (B : Int), .bool H]) (t := 32) ?hr ?_; (case hd => rfl); (case hg => rfl); (case hr => first | (go_simp; done) | (go_simp; rfl)); intro gq hg_ w1 hm_ hb_; have GQ := Aside0.mk (show w.heap.size ≤ gq by rw [hg_]; exact B_0.out.size); have B_1 := Aside0.mk (below_step B_0.out hb_); have Q_1 := Aside0.mk (hm_); clear hm_ hb_ hg_) | (go_at_call 40; (with_reducible refine (ends_calls g A c l HV.out _ (HC.out.below B_1.out)).mono ?_); rw [HLO.out, HHI.out]; rintro e w2 ⟨rfl, hb⟩; have B_2 := Aside0.mk (below_step B_1.out hb); have Q_2 := Aside0.mk (blk_below Q_1.out hb); clear Q_1; clear hb) | ((with_reducible refine gate_dst (N := 19) rfl ?_); refine Kd.event_run rfl (v := .agg #[.int .u32 (X : Int), .int .u32 (B : Int), .bool H]) (w1 := w2) ?hr ?_; (case hr => exact load32 (by rfl) rfl (Q_2.out))) | (go_at_call 42; (with_reducible refine (HFI.out _ B_2.out).mono ?_); rintro e w3 ⟨rfl, hb⟩; have B_3 := Aside0.mk (below_step B_2.out hb); have Q_3 := Aside0.mk (blk_below Q_2.out hb); clear Q_2; clear hb))
 go_ret
 exact ⟨rfl, B_3.out⟩
end Go.Proofs.Ytkicfaboibfbpaa.A
end
section
set_option linter.unusedVariables false
set_option linter.unusedSimpArgs false
namespace Go.Proofs.Ytkicfaboibfbpaa.A
open Go.RowKit Go.Proofs.YtkicfaboibfbpaaW.PrintWords Go.Proofs.YtkicfaboibfbpaaW.PrintLast Go.Proofs.YtkicfaboibfbpaaW.PrintMore Go.Proofs.Ytkicfaboibfbpaa.PCurveAts
abbrev Hd := Option Addr × Nat × Nat
/-- a row of headers -/
def hk : Kd Hd := Kd.scalar (fun h : Hd => .slice h.1 h.2.1 h.2.2) (fun _ => rfl)
end Go.Proofs.Ytkicfaboibfbpaa.A
end
section
set_option linter.unusedVariables false
set_option linter.unusedSimpArgs false
namespace Go.Proofs.Ytkicfaboibfbpaa.A
open Go.RowKit Go.Proofs.YtkicfaboibfbpaaW.PrintWords Go.Proofs.YtkicfaboibfbpaaW.PrintLast Go.Proofs.YtkicfaboibfbpaaW.PrintMore Go.Proofs.Ytkicfaboibfbpaa.PCurveAts
/-- turned round -/
def trn (l : List (Nat × Nat)) : List (Nat × Nat) := l.map fun k => (k.2, k.1)
theorem trn_len (l : List (Nat × Nat)) : (trn l).length = l.length := by unfold trn; simp
theorem trn_gk (l : List (Nat × Nat)) (i : Nat) : gk (trn l) i = ((gk l i).2, (gk l i).1) := by
 unfold gk trn
 rw [List.getD_eq_getElem?_getD, List.getD_eq_getElem?_getD, List.getElem?_map]
 cases l[i]? <;> rfl
theorem trn_take {l : List (Nat × Nat)} {i : Nat} (h : i < l.length) : trn (l.take (i + 1)) = trn (l.take i) ++ [((gk l i).2, (gk l i).1)] := by
 unfold trn gk
 rw [List.take_add_one, List.map_append, List.getD_eq_getElem?_getD, List.getElem?_eq_getElem h]; rfl
/-- a flat piece -/
def flatB : List (Nat × Nat) → Bool
 | a :: b :: t => eqv a.2 b.2 || flatB (b :: t)
 | _ => false
theorem flat_of : ∀ (l : List (Nat × Nat)), (∀ j, j + 1 < l.length → eqv (gk l j).2 (gk l (j + 1)).2 = false) → flatB l = false
 | [], _ => rfl
 | [_], _ => rfl
 | a :: b :: t, h => by
  unfold flatB
  have h0 : eqv a.2 b.2 = false := h 0 (by simp)
  rw [h0, flat_of (b :: t) (fun j hj => h (j + 1) (by simp at hj ⊢; omega))]; rfl
theorem flat_at : ∀ (l : List (Nat × Nat)) (j : Nat), j + 1 < l.length → eqv (gk l j).2 (gk l (j + 1)).2 = true → flatB l = true
 | [], j, h, _ => absurd h (by simp)
 | [_], j, h, _ => absurd h (by simp)
 | a :: b :: t, 0, _, h => by
  unfold flatB
  have h : eqv a.2 b.2 = true := h
  rw [h]; rfl
 | a :: b :: t, j + 1, hj, h => by
  unfold flatB
  rw [flat_at (b :: t) j (by simp at hj ⊢; omega) h, Bool.or_true]
theorem flat_all : ∀ (l : List (Nat × Nat)), flatB l = false → ∀ j, j + 1 < l.length → eqv (gk l j).2 (gk l (j + 1)).2 = false := by
 intro l h j hj
 cases h2 : eqv (gk l j).2 (gk l (j + 1)).2
 ·rfl
 ·rw [flat_at l j hj h2] at h; cases h
theorem KR.as {w : World} {base : Nat} {v : Value} {l : List (Nat × Nat)} (h : KR w base v l) : ∃ A n c, v = .slice A n c ∧ n = l.length := by
 obtain ⟨A, c, e⟩ := h.slice
 exact ⟨A, _, c, e, rfl⟩
set_option maxHeartbeats 8000000 in
theorem Turn_calls (g : Nat) (A : Option Addr) (c : Nat) (l : List (Nat × Nat)) (hv : Val l) (w : World) (hC : CvB w g A c l) :
    Calls Try.prog 24 #[.pointer (some ⟨g, 0, none⟩)] w fun e w' => (flatB l = true ∧ e = .returned (.tuple #[.pointer none, .int .i64 44]) ∧ Below w.heap.size w w') ∨ (flatB l = false ∧ ∃ g2 B c2, e = .returned (.tuple #[.pointer (some ⟨g2, 0, none⟩), .int .i64 0]) ∧ CvB w' g2 B c2 (trn l) ∧ Below w.heap.size w w') := by
 have two := hv.two
 have h64 := hv.most
 obtain ⟨n, hn⟩ : ∃ n, l.length = n := ⟨_, rfl⟩
 have HC : Aside0 (CvB w g A c l) := ⟨hC⟩
 have gs := (blk_cell hC.1 0).trans rfl
 obtain ⟨ad, rfl, _⟩ := kn_at hC.2.2 0 (by omega)
 rw [hn] at gs
 have HL := Aside0.mk hn
 have HVV : Aside0 (Val l) := ⟨hv⟩
 have H6 : Aside0 (2 ≤ n ∧ n ≤ 64) := ⟨by omega⟩
 clear hv hC two h64 hn
 go_enter Try.func24, Try.ntmps24
 go_wp2
 go_loopg [4, 12] n (fun kx s4 s12 wr => ∃ (i : Nat) (Av : Option Addr) (nv cv : Nat), s12 = .int .i64 (i : Int) ∧ s4 = .slice Av nv cv ∧ i ≤ n ∧ n - i ≤ kx ∧ Aside0 (Below w.heap.size w wr) ∧ Aside0 (KR wr w.heap.size (.slice Av nv cv) (trn (l.take i))) ∧ Aside0 (∀ j, j + 1 < i → eqv (A.gk l j).2 (A.gk l (j + 1)).2 = false))
 case atStart => exact ⟨0, none, 0, 0, rfl, rfl, Nat.zero_le _, by omega, ⟨Below.refl _ _⟩, ⟨KR.nil _ _⟩, ⟨fun j hj => absurd hj (by omega)⟩⟩
 case round =>
  obtain ⟨i, Av, nv, cv, rfl, rfl, i1, i2, HB, HV, HE⟩ := hrel
  have h6 := H6.out
  by_cases hin : i < n
  ·have HINN := Aside0.mk hin
   have HIN : Aside0 (i < l.length) := ⟨by have := HL.out; omega⟩
   have e1i : decide ((0 : Int) ≤ (i : Int)) = true := decide_eq_true (by omega)
   have e2i : decide ((i : Int) < (n : Int)) = true := decide_eq_true (by omega)
   have e5i : ((0 : Int) ≤ (i : Int)) = True := eq_true (by omega)
   have e6i : ((i : Int) < (n : Int)) = True := eq_true (by omega)
   have e7i : (i < n) = True := eq_true (by omega)
   have wi : IntKind.i64.wrap ((i : Int) + 1) = ((i + 1 : Nat) : Int) := by rw [show IntKind.i64.wrap ((i : Int) + 1) = wrap64 ((i : Int) + 1) from i64_w _, w64 (by omega) (by omega)]; omega
   have HLE : Aside0 ((((trn (l.take i)).map kI).length + 1) * 8 ≤ 140737488355328) := ⟨by rw [List.length_map, trn_len, List.length_take]; omega⟩
   have B_0 : Aside0 (Below wr.heap.size wr wr) := ⟨Below.refl _ _⟩
   obtain ⟨r0, r1⟩ := kn_at2 (HC.out.below HB.out).2.2 i HIN.out
   have HG := Aside0.mk (gk_ok HVV.out.ok i)
   by_cases h0 : i = 0
   ·have t1 : decide ((i : Int) > 0) = false := decide_eq_false (by omega)
    have t2 : decide ((0 : Int) < (i : Int)) = false := decide_eq_false (by omega)
    have t3 : (0 < i) = False := eq_false (by omega)
    have H0 := Aside0.mk h0
    clear h0 hin h6
    go_wp2_with (first | first | ((with_reducible refine gate_dst (N := 6) rfl ?_); refine box_event ?hg (N := 6) ?hd (cs := #[.int .u32 0, .int .u32 0]) (t := 43) ?hr ?_; (case hd => rfl); (case hg => rfl); (case hr => first | (go_simp; done) | (go_simp; rfl)); intro gx hg_ w1 hm_ hb_; have GK := Aside0.mk (show wr.heap.size ≤ gx by rw [hg_]; exact B_0.out.size); have B_1 := Aside0.mk (below_step B_0.out hb_); have K_1 := Aside0.mk (hm_); have cK0 := (blk_cell K_1.out 0).trans rfl; have cK1 := (blk_cell K_1.out 1).trans rfl; clear hm_ hb_ hg_) | ((with_reducible refine gate_store (p := 6) rfl ?_); refine store_event rfl rfl rfl gx #[.int .u32 ((A.gk l i).1 : Int), .int .u32 ((A.gk l i).2 : Int)] _ 43 rfl rfl K_1.out size43 rfl (by simp [Value.oneCell']) ?_; intro w2 hm_ hst_ hbl_; clear cK0 cK1; have B_2 := Aside0.mk (B_1.out.trans (hbl_ _ GK.out)); have K_2 := Aside0.mk (hm_); clear K_1 hm_ hst_ hbl_; have cK0 := (blk_cell K_2.out 0).trans rfl; have cK1 := (blk_cell K_2.out 1).trans rfl))
    clear cK0 cK1 r0 r1
    have B_3 : Aside0 (Below wr.heap.size wr w2.drew) := ⟨below_drew B_2.out⟩
    have K_3 := Aside0.mk (blk_drew K_2.out)
    clear B_2 K_2
    refine start_ (n := 16) (S := fun w' => True) (ds := []) #[ff_,ff_,ff_,ff_,ff_,ff_,ff_,ff_,ff_,ff_,ff_,ff_,ff_,ff_,ff_,ff_] (by kernel_rfl) rfl rfl trivial (fun hHeld => ?_)
    generalize w2.drew = w3 at *
    refine pure_ (i := 0) (N := some 17) (v := ?_) (a' := ?_) #[tt_,ff_,ff_,ff_,ff_,ff_,ff_,ff_,ff_,ff_,ff_,ff_,ff_,ff_,ff_,ff_] rfl rfl (by kernel_rfl) (fun _ _ _ h => h) (Or.inl ⟨by rfl, ?_⟩) ?_ ?_
    rotate_left
    ·intro w'
     go_simp
     with_reducible rfl
    rotate_left
    ·simp only [Act.put, List.setIfInBounds_toArray, List.set_cons_zero, List.set_cons_succ, i64_w, i32_w]
     rfl
    refine pure_ (i := 1) (N := some 18) (v := ?_) (a' := ?_) #[tt_,tt_,ff_,ff_,ff_,ff_,ff_,ff_,ff_,ff_,ff_,ff_,ff_,ff_,ff_,ff_] rfl rfl (by kernel_rfl) (fun _ _ _ h => h) (Or.inl ⟨by rfl, ?_⟩) ?_ ?_
    rotate_left
    ·intro w'
     go_simp
     with_reducible rfl
    rotate_left
    ·simp only [Act.put, List.setIfInBounds_toArray, List.set_cons_zero, List.set_cons_succ, i64_w, i32_w]
     rfl
    refine pure_ (i := 2) (N := some 19) (v := ?_) (a' := ?_) #[tt_,tt_,tt_,ff_,ff_,ff_,ff_,ff_,ff_,ff_,ff_,ff_,ff_,ff_,ff_,ff_] rfl rfl (by kernel_rfl) (fun _ _ _ h => h) (Or.inl ⟨by rfl, ?_⟩) ?_ ?_
    rotate_left
    ·intro w'
     go_simp
     with_reducible rfl
    rotate_left
    ·simp only [Act.put, List.setIfInBounds_toArray, List.set_cons_zero, List.set_cons_succ, i64_w, i32_w]
     rfl
    refine pure_ (i := 3) (N := some 20) (v := undef) (a' := ?_) #[tt_,tt_,tt_,tt_,ff_,ff_,ff_,ff_,ff_,ff_,ff_,ff_,ff_,ff_,ff_,ff_] rfl rfl (by kernel_rfl) (fun _ _ _ h => h) (Or.inr ⟨by rfl, rfl⟩) ?_ ?_
    rotate_left
    ·simp only [Act.put, List.setIfInBounds_toArray, List.set_cons_zero, List.set_cons_succ, i64_w, i32_w]
     rfl
    refine pure_ (i := 4) (N := some 21) (v := undef) (a' := ?_) #[tt_,tt_,tt_,tt_,tt_,ff_,ff_,ff_,ff_,ff_,ff_,ff_,ff_,ff_,ff_,ff_] rfl rfl (by kernel_rfl) (fun _ _ _ h => h) (Or.inr ⟨by rfl, rfl⟩) ?_ ?_
    rotate_left
    ·simp only [Act.put, List.setIfInBounds_toArray, List.set_cons_zero, List.set_cons_succ, i64_w, i32_w]
     rfl
    refine pure_ (i := 5) (N := some 22) (v := undef) (a' := ?_) #[tt_,tt_,tt_,tt_,tt_,tt_,ff_,ff_,ff_,ff_,ff_,ff_,ff_,ff_,ff_,ff_] rfl rfl (by kernel_rfl) (fun _ _ _ h => h) (Or.inr ⟨by rfl, rfl⟩) ?_ ?_
    rotate_left
    ·simp only [Act.put, List.setIfInBounds_toArray, List.set_cons_zero, List.set_cons_succ, i64_w, i32_w]
     rfl
    refine pure_ (i := 6) (N := some 23) (v := undef) (a' := ?_) #[tt_,tt_,tt_,tt_,tt_,tt_,tt_,ff_,ff_,ff_,ff_,ff_,ff_,ff_,ff_,ff_] rfl rfl (by kernel_rfl) (fun _ _ _ h => h) (Or.inr ⟨by rfl, rfl⟩) ?_ ?_
    rotate_left
    ·simp only [Act.put, List.setIfInBounds_toArray, List.set_cons_zero, List.set_cons_succ, i64_w, i32_w]
     rfl
    refine pure_ (i := 7) (N := some 24) (v := undef) (a' := ?_) #[tt_,tt_,tt_,tt_,tt_,tt_,tt_,tt_,ff_,ff_,ff_,ff_,ff_,ff_,ff_,ff_] rfl rfl (by kernel_rfl) (fun _ _ _ h => h) (Or.inr ⟨by rfl, rfl⟩) ?_ ?_
    rotate_left
    ·simp only [Act.put, List.setIfInBounds_toArray, List.set_cons_zero, List.set_cons_succ, i64_w, i32_w]
     rfl
    refine pure_ (i := 8) (N := some 25) (v := undef) (a' := ?_) #[tt_,tt_,tt_,tt_,tt_,tt_,tt_,tt_,tt_,ff_,ff_,ff_,ff_,ff_,ff_,ff_] rfl rfl (by kernel_rfl) (fun _ _ _ h => h) (Or.inr ⟨by rfl, rfl⟩) ?_ ?_
    rotate_left
    ·simp only [Act.put, List.setIfInBounds_toArray, List.set_cons_zero, List.set_cons_succ, i64_w, i32_w]
     rfl
    refine pure_ (i := 9) (N := some 26) (v := undef) (a' := ?_) #[tt_,tt_,tt_,tt_,tt_,tt_,tt_,tt_,tt_,tt_,ff_,ff_,ff_,ff_,ff_,ff_] rfl rfl (by kernel_rfl) (fun _ _ _ h => h) (Or.inr ⟨by rfl, rfl⟩) ?_ ?_
    rotate_left
    ·simp only [Act.put, List.setIfInBounds_toArray, List.set_cons_zero, List.set_cons_succ, i64_w, i32_w]
     rfl
    refine pure_ (i := 10) (N := some 27) (v := undef) (a' := ?_) #[tt_,tt_,tt_,tt_,tt_,tt_,tt_,tt_,tt_,tt_,tt_,ff_,ff_,ff_,ff_,ff_] rfl rfl (by kernel_rfl) (fun _ _ _ h => h) (Or.inr ⟨by rfl, rfl⟩) ?_ ?_
    rotate_left
    ·simp only [Act.put, List.setIfInBounds_toArray, List.set_cons_zero, List.set_cons_succ, i64_w, i32_w]
     rfl
    refine pure_ (i := 11) (N := some 28) (v := undef) (a' := ?_) #[tt_,tt_,tt_,tt_,tt_,tt_,tt_,tt_,tt_,tt_,tt_,tt_,ff_,ff_,ff_,ff_] rfl rfl (by kernel_rfl) (fun _ _ _ h => h) (Or.inr ⟨by rfl, rfl⟩) ?_ ?_
    rotate_left
    ·simp only [Act.put, List.setIfInBounds_toArray, List.set_cons_zero, List.set_cons_succ, i64_w, i32_w]
     rfl
    refine pure_ (i := 12) (N := some 29) (v := undef) (a' := ?_) #[tt_,tt_,tt_,tt_,tt_,tt_,tt_,tt_,tt_,tt_,tt_,tt_,tt_,ff_,ff_,ff_] rfl rfl (by kernel_rfl) (fun _ _ _ h => h) (Or.inr ⟨by rfl, rfl⟩) ?_ ?_
    rotate_left
    ·simp only [Act.put, List.setIfInBounds_toArray, List.set_cons_zero, List.set_cons_succ, i64_w, i32_w]
     rfl
    refine pure_ (i := 13) (N := some 30) (v := undef) (a' := ?_) #[tt_,tt_,tt_,tt_,tt_,tt_,tt_,tt_,tt_,tt_,tt_,tt_,tt_,tt_,ff_,ff_] rfl rfl (by kernel_rfl) (fun _ _ _ h => h) (Or.inr ⟨by rfl, rfl⟩) ?_ ?_
    rotate_left
    ·simp only [Act.put, List.setIfInBounds_toArray, List.set_cons_zero, List.set_cons_succ, i64_w, i32_w]
     rfl
    refine pure_ (i := 14) (N := some 31) (v := undef) (a' := ?_) #[tt_,tt_,tt_,tt_,tt_,tt_,tt_,tt_,tt_,tt_,tt_,tt_,tt_,tt_,tt_,ff_] rfl rfl (by kernel_rfl) (fun _ _ _ h => h) (Or.inr ⟨by rfl, rfl⟩) ?_ ?_
    rotate_left
    ·simp only [Act.put, List.setIfInBounds_toArray, List.set_cons_zero, List.set_cons_succ, i64_w, i32_w]
     rfl
    refine pure_ (i := 15) (N := some 32) (v := ?_) (a' := ?_) #[tt_,tt_,tt_,tt_,tt_,tt_,tt_,tt_,tt_,tt_,tt_,tt_,tt_,tt_,tt_,tt_] rfl rfl (by kernel_rfl) (fun _ _ _ h => h) (Or.inl ⟨by rfl, ?_⟩) ?_ ?_
    rotate_left
    ·intro w'
     go_simp
     with_reducible rfl
    rotate_left
    ·simp only [Act.put, List.setIfInBounds_toArray, List.set_cons_zero, List.set_cons_succ, i64_w, i32_w]
     rfl
    refine done_ (by kernel_rfl) ?_
    have cK0 := (blk_cell K_3.out 0).trans rfl
    have cK1 := (blk_cell K_3.out 1).trans rfl
    go_wp2_with (((with_reducible refine gate_builtin (b := .append) (xs := #[.tmp 33, .tmp 39]) rfl ?_); at_builtin; refine Kd.R_append k43 (w0 := w) w.heap.size rfl (.tmp 33) (.tmp 39) 23 43 (.agg #[.int .u32 0, .int .u32 0]) 8 rfl Try.underlying23 info43 rfl (by decide) (by decide) (.slice Av nv cv) ((trn (l.take i)).map kI) (kI ((A.gk l i).2, (A.gk l i).1)) [.int .u32 ((A.gk l i).2 : Int), .int .u32 ((A.gk l i).1 : Int)] (fun _ => True) (fun _ => False) rfl rfl (k43_mkM _ _ _ (kI ((A.gk l i).2, (A.gk l i).1))) (fun _ h => h.elim) (fun _ _ => trivial) (HV.out.below B_3.out) (below_step HB.out B_3.out) (below_step HB.out B_3.out).size HLE.out ?_; intro v9 w9 hR hB hg hat; have V9 : Aside0 (KR w9 w.heap.size v9 (trn (l.take (i + 1)))) := ⟨by rw [trn_take HIN.out]; unfold KR; rw [List.map_append]; exact hR⟩; have B9 := Aside0.mk hB; clear hR hB hg hat; obtain ⟨A9, n9, c9, rfl, hn9⟩ := V9.out.as; have HN9 := Aside0.mk hn9; clear hn9))
    go_roundg (n - (i + 1))
    case measure => have := HINN.out; omega
    case rel => exact ⟨i + 1, A9, n9, c9, by first | rfl | (congr 1; omega), rfl, HINN.out, by omega, B9, V9, ⟨fun j hj => absurd hj (by have := H0.out; omega)⟩⟩
   ·obtain ⟨j, hj⟩ : ∃ j, i = j + 1 := ⟨i - 1, by omega⟩
    have t1 : decide ((i : Int) > 0) = true := decide_eq_true (by omega)
    have t2 : decide ((0 : Int) < (i : Int)) = true := decide_eq_true (by omega)
    have t3 : (0 < i) = True := eq_true (by omega)
    have wj : IntKind.i64.wrap ((i : Int) - 1) = (j : Int) := by rw [show IntKind.i64.wrap ((i : Int) - 1) = wrap64 ((i : Int) - 1) from i64_w _, w64 (by omega) (by omega)]; omega
    have e1j : decide ((0 : Int) ≤ (j : Int)) = true := decide_eq_true (by omega)
    have e2j : decide ((j : Int) < (n : Int)) = true := decide_eq_true (by omega)
    have e5j : ((0 : Int) ≤ (j : Int)) = True := eq_true (by omega)
    have e6j : ((j : Int) < (n : Int)) = True := eq_true (by omega)
    have e7j : (j < n) = True := eq_true (by omega)
    have HJ := Aside0.mk hj
    have HJN : Aside0 (j < l.length) := ⟨by have := HIN.out; omega⟩
    have HGJ := Aside0.mk (gk_ok HVV.out.ok j)
    clear h0 hin h6 hj
    cases c5 : eqv (A.gk l j).2 (A.gk l i).2
    ·have C5 := Aside0.mk c5
     go_wp2_with (first | first | ((with_reducible refine gate_dst (N := 6) rfl ?_); refine box_event ?hg (N := 6) ?hd (cs := #[.int .u32 0, .int .u32 0]) (t := 43) ?hr ?_; (case hd => rfl); (case hg => rfl); (case hr => first | (go_simp; done) | (go_simp; rfl)); intro gx hg_ w1 hm_ hb_; have GK := Aside0.mk (show wr.heap.size ≤ gx by rw [hg_]; exact B_0.out.size); have B_1 := Aside0.mk (below_step B_0.out hb_); have K_1 := Aside0.mk (hm_); have cK0 := (blk_cell K_1.out 0).trans rfl; have cK1 := (blk_cell K_1.out 1).trans rfl; clear hm_ hb_ hg_) | ((with_reducible refine gate_store (p := 6) rfl ?_); refine store_event rfl rfl rfl gx #[.int .u32 ((A.gk l i).1 : Int), .int .u32 ((A.gk l i).2 : Int)] _ 43 rfl rfl K_1.out size43 rfl (by simp [Value.oneCell']) ?_; intro w2 hm_ hst_ hbl_; clear cK0 cK1; have B_2 := Aside0.mk (B_1.out.trans (hbl_ _ GK.out)); have K_2 := Aside0.mk (hm_); clear K_1 hm_ hst_ hbl_; have cK0 := (blk_cell K_2.out 0).trans rfl; have cK1 := (blk_cell K_2.out 1).trans rfl))
     clear cK0 cK1 r0 r1 gs
     have B_3 : Aside0 (Below wr.heap.size wr w2.drew) := ⟨below_drew B_2.out⟩
     have K_3 := Aside0.mk (blk_drew K_2.out)
     clear B_2 K_2
     have gs := (blk_cell (HC.out.below (below_step HB.out B_3.out)).1 0).trans rfl
     rw [HL.out] at gs
     obtain ⟨j0, j1⟩ := kn_at2 (HC.out.below (below_step HB.out B_3.out)).2.2 j HJN.out
     have cK1 := (blk_cell K_3.out 1).trans rfl
     refine start_ (n := 16) (S := fun w' => w'.cell? ⟨g, 0, none⟩ = some (.slice (some ad) n c) ∧ w'.cell? ⟨(ad.add (j * 2)).block, (ad.add (j * 2)).off + 1, none⟩ = some (.int .u32 ((A.gk l j).2 : Int)) ∧ w'.cell? ⟨gx, 1, none⟩ = some (.int .u32 ((A.gk l i).2 : Int))) (ds := []) #[ff_,ff_,ff_,ff_,ff_,ff_,ff_,ff_,ff_,ff_,ff_,ff_,ff_,ff_,ff_,ff_] (by kernel_rfl) rfl rfl ⟨gs, j1, cK1⟩ (fun hHeld => ?_)
     generalize w2.drew = w3 at *
     refine pure_ (i := 0) (N := some 17) (v := ?_) (a' := ?_) #[tt_,ff_,ff_,ff_,ff_,ff_,ff_,ff_,ff_,ff_,ff_,ff_,ff_,ff_,ff_,ff_] rfl rfl (by kernel_rfl) (fun _ _ _ h => h) (Or.inl ⟨by rfl, ?_⟩) ?_ ?_
     rotate_left
     ·intro w'
      go_simp
      with_reducible rfl
     rotate_left
     ·simp only [Act.put, List.setIfInBounds_toArray, List.set_cons_zero, List.set_cons_succ, i64_w, i32_w]
      rfl
     refine pure_ (i := 1) (N := some 18) (v := ?_) (a' := ?_) #[tt_,tt_,ff_,ff_,ff_,ff_,ff_,ff_,ff_,ff_,ff_,ff_,ff_,ff_,ff_,ff_] rfl rfl (by kernel_rfl) (fun _ _ _ h => h) (Or.inl ⟨by rfl, ?_⟩) ?_ ?_
     rotate_left
     ·intro w'
      go_simp
      with_reducible rfl
     rotate_left
     ·simp only [Act.put, List.setIfInBounds_toArray, List.set_cons_zero, List.set_cons_succ, i64_w, i32_w]
      rfl
     refine pure_ (i := 2) (N := some 19) (v := ?_) (a' := ?_) #[tt_,tt_,tt_,ff_,ff_,ff_,ff_,ff_,ff_,ff_,ff_,ff_,ff_,ff_,ff_,ff_] rfl rfl (by kernel_rfl) (fun _ _ _ h => h) (Or.inl ⟨by rfl, ?_⟩) ?_ ?_
     rotate_left
     ·intro w'
      go_simp
      with_reducible rfl
     rotate_left
     ·simp only [Act.put, List.setIfInBounds_toArray, List.set_cons_zero, List.set_cons_succ, i64_w, i32_w]
      rfl
     refine pure_ (i := 3) (N := some 20) (v := ?_) (a' := ?_) #[tt_,tt_,tt_,tt_,ff_,ff_,ff_,ff_,ff_,ff_,ff_,ff_,ff_,ff_,ff_,ff_] rfl rfl (by kernel_rfl) (fun _ _ _ h => h) (Or.inl ⟨by rfl, ?_⟩) ?_ ?_
     rotate_left
     ·intro w'
      go_simp
      with_reducible rfl
     rotate_left
     ·simp only [Act.put, List.setIfInBounds_toArray, List.set_cons_zero, List.set_cons_succ, i64_w, i32_w]
      rfl
     refine pure_ (i := 4) (N := some 21) (v := ?_) (a' := ?_) #[tt_,tt_,tt_,tt_,tt_,ff_,ff_,ff_,ff_,ff_,ff_,ff_,ff_,ff_,ff_,ff_] rfl rfl (by kernel_rfl) (fun _ _ _ h => h) (Or.inl ⟨by rfl, ?_⟩) ?_ ?_
     rotate_left
     ·intro w'
      go_simp
      with_reducible rfl
     rotate_left
     ·simp only [Act.put, List.setIfInBounds_toArray, List.set_cons_zero, List.set_cons_succ, i64_w, i32_w]
      rfl
     refine pure_ (i := 5) (N := some 22) (v := ?_) (a' := ?_) #[tt_,tt_,tt_,tt_,tt_,tt_,ff_,ff_,ff_,ff_,ff_,ff_,ff_,ff_,ff_,ff_] rfl rfl (by kernel_rfl) (fun _ _ _ h => h) (Or.inl ⟨by rfl, ?_⟩) ?_ ?_
     rotate_left
     ·intro w'
      go_simp
      with_reducible rfl
     rotate_left
     ·simp only [Act.put, List.setIfInBounds_toArray, List.set_cons_zero, List.set_cons_succ, i64_w, i32_w]
      rfl
     refine pure_ (i := 7) (N := some 24) (v := ?_) (a' := ?_) #[tt_,tt_,tt_,tt_,tt_,tt_,ff_,tt_,ff_,ff_,ff_,ff_,ff_,ff_,ff_,ff_] rfl rfl (by kernel_rfl) (fun _ _ _ h => h) (Or.inl ⟨by rfl, ?_⟩) ?_ ?_
     rotate_left
     ·intro w'
      go_simp
      with_reducible rfl
     rotate_left
     ·simp only [Act.put, List.setIfInBounds_toArray, List.set_cons_zero, List.set_cons_succ, i64_w, i32_w]
      rfl
     refine pure_ (i := 8) (N := some 25) (v := ?_) (a' := ?_) #[tt_,tt_,tt_,tt_,tt_,tt_,ff_,tt_,tt_,ff_,ff_,ff_,ff_,ff_,ff_,ff_] rfl rfl (by kernel_rfl) (fun _ _ _ h => h) (Or.inl ⟨by rfl, ?_⟩) ?_ ?_
     rotate_left
     ·intro w'
      go_simp
      with_reducible rfl
     rotate_left
     ·simp only [Act.put, List.setIfInBounds_toArray, List.set_cons_zero, List.set_cons_succ, i64_w, i32_w]
      rfl
     refine pure_ (i := 12) (N := some 29) (v := ?_) (a' := ?_) #[tt_,tt_,tt_,tt_,tt_,tt_,ff_,tt_,tt_,ff_,ff_,ff_,tt_,ff_,ff_,ff_] rfl rfl (by kernel_rfl) (fun _ _ _ h => h) (Or.inl ⟨by rfl, ?_⟩) ?_ ?_
     rotate_left
     ·intro w'
      go_simp
      with_reducible rfl
     rotate_left
     ·simp only [Act.put, List.setIfInBounds_toArray, List.set_cons_zero, List.set_cons_succ, i64_w, i32_w]
      rfl
     refine take_ (i := 6) (N := some 23) (v := ?_) (a' := ?_) #[tt_,tt_,tt_,tt_,tt_,tt_,tt_,tt_,tt_,ff_,ff_,ff_,tt_,ff_,ff_,ff_] rfl rfl (by kernel_rfl) (fun _ _ _ h => h) (Or.inl ⟨by rfl, ?_⟩) hHeld ?_ ?_
     rotate_left
     ·rintro w' ⟨s0, s1, s2⟩
      go_simp
      with_reducible rfl
     rotate_left
     ·simp only [Act.put, List.setIfInBounds_toArray, List.set_cons_zero, List.set_cons_succ, i64_w, i32_w]
      rfl
     refine pure_ (i := 9) (N := some 26) (v := ?_) (a' := ?_) #[tt_,tt_,tt_,tt_,tt_,tt_,tt_,tt_,tt_,tt_,ff_,ff_,tt_,ff_,ff_,ff_] rfl rfl (by kernel_rfl) (fun _ _ _ h => h) (Or.inl ⟨by rfl, ?_⟩) ?_ ?_
     rotate_left
     ·intro w'
      go_simp
      with_reducible rfl
     rotate_left
     ·simp only [Act.put, List.setIfInBounds_toArray, List.set_cons_zero, List.set_cons_succ, i64_w, i32_w]
      rfl
     refine pure_ (i := 10) (N := some 27) (v := ?_) (a' := ?_) #[tt_,tt_,tt_,tt_,tt_,tt_,tt_,tt_,tt_,tt_,tt_,ff_,tt_,ff_,ff_,ff_] rfl rfl (by kernel_rfl) (fun _ _ _ h => h) (Or.inl ⟨by rfl, ?_⟩) ?_ ?_
     rotate_left
     ·intro w'
      go_simp
      with_reducible rfl
     rotate_left
     ·simp only [Act.put, List.setIfInBounds_toArray, List.set_cons_zero, List.set_cons_succ, i64_w, i32_w]
      rfl
     refine take_ (i := 11) (N := some 28) (v := ?_) (a' := ?_) #[tt_,tt_,tt_,tt_,tt_,tt_,tt_,tt_,tt_,tt_,tt_,tt_,tt_,ff_,ff_,ff_] rfl rfl (by kernel_rfl) (fun _ _ _ h => h) (Or.inl ⟨by rfl, ?_⟩) hHeld ?_ ?_
     rotate_left
     ·rintro w' ⟨s0, s1, s2⟩
      go_simp
      with_reducible rfl
     rotate_left
     ·simp only [Act.put, List.setIfInBounds_toArray, List.set_cons_zero, List.set_cons_succ, i64_w, i32_w]
      rfl
     refine take_ (i := 13) (N := some 30) (v := ?_) (a' := ?_) #[tt_,tt_,tt_,tt_,tt_,tt_,tt_,tt_,tt_,tt_,tt_,tt_,tt_,tt_,ff_,ff_] rfl rfl (by kernel_rfl) (fun _ _ _ h => h) (Or.inl ⟨by rfl, ?_⟩) hHeld ?_ ?_
     rotate_left
     ·rintro w' ⟨s0, s1, s2⟩
      go_simp
      with_reducible rfl
     rotate_left
     ·simp only [Act.put, List.setIfInBounds_toArray, List.set_cons_zero, List.set_cons_succ, i64_w, i32_w]
      rfl
     refine one_ (i := 14) (N := some 31) #[tt_,tt_,tt_,tt_,tt_,tt_,tt_,tt_,tt_,tt_,tt_,tt_,tt_,tt_,tt_,ff_] rfl rfl (by kernel_rfl) (by decide) (fun K hK => ?_)
     refine goes_ Try.func48 (by kernel_rfl) rfl #[.int .u32 ((A.gk l j).2 : Int), .int .u32 ((A.gk l i).2 : Int)] (by rfl) rfl rfl (by (try simp only [List.map_toArray, List.map_cons, List.map_nil]); rfl) ?_
     with_reducible refine (Equal_calls _ _ HGJ.out.2 HG.out.2 _).mono ?_
     rw [C5.out]
     rintro e _ ⟨rfl, rfl⟩
     refine ⟨_, rfl, ?_⟩
     refine hK.out _ _ ⟨gs, j1, cK1⟩ (fun hHeld => ?_)
     clear hK K
     refine norm_ (a' := ?_) ?_ ?_
     rotate_left
     ·show Act.put _ (some 31) _ = _
      simp only [Act.put, List.setIfInBounds_toArray, List.set_cons_zero, List.set_cons_succ, i64_w, i32_w]
      rfl
     refine pure_ (i := 15) (N := some 32) (v := ?_) (a' := ?_) #[tt_,tt_,tt_,tt_,tt_,tt_,tt_,tt_,tt_,tt_,tt_,tt_,tt_,tt_,tt_,tt_] rfl rfl (by kernel_rfl) (fun _ _ _ h => h) (Or.inl ⟨by rfl, ?_⟩) ?_ ?_
     rotate_left
     ·intro w'
      go_simp
      with_reducible rfl
     rotate_left
     ·simp only [Act.put, List.setIfInBounds_toArray, List.set_cons_zero, List.set_cons_succ, i64_w, i32_w]
      rfl
     refine done_ (by kernel_rfl) ?_
     have cK0 := (blk_cell K_3.out 0).trans rfl
     go_wp2_with (((with_reducible refine gate_builtin (b := .append) (xs := #[.tmp 33, .tmp 39]) rfl ?_); at_builtin; refine Kd.R_append k43 (w0 := w) w.heap.size rfl (.tmp 33) (.tmp 39) 23 43 (.agg #[.int .u32 0, .int .u32 0]) 8 rfl Try.underlying23 info43 rfl (by decide) (by decide) (.slice Av nv cv) ((trn (l.take i)).map kI) (kI ((A.gk l i).2, (A.gk l i).1)) [.int .u32 ((A.gk l i).2 : Int), .int .u32 ((A.gk l i).1 : Int)] (fun _ => True) (fun _ => False) rfl rfl (k43_mkM _ _ _ (kI ((A.gk l i).2, (A.gk l i).1))) (fun _ h => h.elim) (fun _ _ => trivial) (HV.out.below B_3.out) (below_step HB.out B_3.out) (below_step HB.out B_3.out).size HLE.out ?_; intro v9 w9 hR hB hg hat; have V9 : Aside0 (KR w9 w.heap.size v9 (trn (l.take (i + 1)))) := ⟨by rw [trn_take HIN.out]; unfold KR; rw [List.map_append]; exact hR⟩; have B9 := Aside0.mk hB; clear hR hB hg hat; obtain ⟨A9, n9, c9, rfl, hn9⟩ := V9.out.as; have HN9 := Aside0.mk hn9; clear hn9))
     go_roundg (n - (i + 1))
     case measure => have := HINN.out; omega
     case rel => exact ⟨i + 1, A9, n9, c9, by first | rfl | (congr 1; omega), rfl, HINN.out, by omega, B9, V9, ⟨fun u hu => by
      have hij := HJ.out
      rcases Nat.lt_or_eq_of_le (show u + 1 ≤ i by omega) with h | h
      ·exact HE.out u h
      ·have : u = j := by omega
       rw [this, ← hij]; exact C5.out⟩⟩
    ·have C5 := Aside0.mk c5
     go_wp2_with (first | first | ((with_reducible refine gate_dst (N := 6) rfl ?_); refine box_event ?hg (N := 6) ?hd (cs := #[.int .u32 0, .int .u32 0]) (t := 43) ?hr ?_; (case hd => rfl); (case hg => rfl); (case hr => first | (go_simp; done) | (go_simp; rfl)); intro gx hg_ w1 hm_ hb_; have GK := Aside0.mk (show wr.heap.size ≤ gx by rw [hg_]; exact B_0.out.size); have B_1 := Aside0.mk (below_step B_0.out hb_); have K_1 := Aside0.mk (hm_); have cK0 := (blk_cell K_1.out 0).trans rfl; have cK1 := (blk_cell K_1.out 1).trans rfl; clear hm_ hb_ hg_) | ((with_reducible refine gate_store (p := 6) rfl ?_); refine store_event rfl rfl rfl gx #[.int .u32 ((A.gk l i).1 : Int), .int .u32 ((A.gk l i).2 : Int)] _ 43 rfl rfl K_1.out size43 rfl (by simp [Value.oneCell']) ?_; intro w2 hm_ hst_ hbl_; clear cK0 cK1; have B_2 := Aside0.mk (B_1.out.trans (hbl_ _ GK.out)); have K_2 := Aside0.mk (hm_); clear K_1 hm_ hst_ hbl_; have cK0 := (blk_cell K_2.out 0).trans rfl; have cK1 := (blk_cell K_2.out 1).trans rfl))
     clear cK0 cK1 r0 r1 gs
     have B_3 : Aside0 (Below wr.heap.size wr w2.drew) := ⟨below_drew B_2.out⟩
     have K_3 := Aside0.mk (blk_drew K_2.out)
     clear B_2 K_2
     have gs := (blk_cell (HC.out.below (below_step HB.out B_3.out)).1 0).trans rfl
     rw [HL.out] at gs
     obtain ⟨j0, j1⟩ := kn_at2 (HC.out.below (below_step HB.out B_3.out)).2.2 j HJN.out
     have cK1 := (blk_cell K_3.out 1).trans rfl
     refine start_ (n := 16) (S := fun w' => w'.cell? ⟨g, 0, none⟩ = some (.slice (some ad) n c) ∧ w'.cell? ⟨(ad.add (j * 2)).block, (ad.add (j * 2)).off + 1, none⟩ = some (.int .u32 ((A.gk l j).2 : Int)) ∧ w'.cell? ⟨gx, 1, none⟩ = some (.int .u32 ((A.gk l i).2 : Int))) (ds := []) #[ff_,ff_,ff_,ff_,ff_,ff_,ff_,ff_,ff_,ff_,ff_,ff_,ff_,ff_,ff_,ff_] (by kernel_rfl) rfl rfl ⟨gs, j1, cK1⟩ (fun hHeld => ?_)
     generalize w2.drew = w3 at *
     refine pure_ (i := 0) (N := some 17) (v := ?_) (a' := ?_) #[tt_,ff_,ff_,ff_,ff_,ff_,ff_,ff_,ff_,ff_,ff_,ff_,ff_,ff_,ff_,ff_] rfl rfl (by kernel_rfl) (fun _ _ _ h => h) (Or.inl ⟨by rfl, ?_⟩) ?_ ?_
     rotate_left
     ·intro w'
      go_simp
      with_reducible rfl
     rotate_left
     ·simp only [Act.put, List.setIfInBounds_toArray, List.set_cons_zero, List.set_cons_succ, i64_w, i32_w]
      rfl
     refine pure_ (i := 1) (N := some 18) (v := ?_) (a' := ?_) #[tt_,tt_,ff_,ff_,ff_,ff_,ff_,ff_,ff_,ff_,ff_,ff_,ff_,ff_,ff_,ff_] rfl rfl (by kernel_rfl) (fun _ _ _ h => h) (Or.inl ⟨by rfl, ?_⟩) ?_ ?_
     rotate_left
     ·intro w'
      go_simp
      with_reducible rfl
     rotate_left
     ·simp only [Act.put, List.setIfInBounds_toArray, List.set_cons_zero, List.set_cons_succ, i64_w, i32_w]
      rfl
     refine pure_ (i := 2) (N := some 19) (v := ?_) (a' := ?_) #[tt_,tt_,tt_,ff_,ff_,ff_,ff_,ff_,ff_,ff_,ff_,ff_,ff_,ff_,ff_,ff_] rfl rfl (by kernel_rfl) (fun _ _ _ h => h) (Or.inl ⟨by rfl, ?_⟩) ?_ ?_
     rotate_left
     ·intro w'
      go_simp
      with_reducible rfl
     rotate_left
     ·simp only [Act.put, List.setIfInBounds_toArray, List.set_cons_zero, List.set_cons_succ, i64_w, i32_w]
      rfl
     refine pure_ (i := 3) (N := some 20) (v := ?_) (a' := ?_) #[tt_,tt_,tt_,tt_,ff_,ff_,ff_,ff_,ff_,ff_,ff_,ff_,ff_,ff_,ff_,ff_] rfl rfl (by kernel_rfl) (fun _ _ _ h => h) (Or.inl ⟨by rfl, ?_⟩) ?_ ?_
     rotate_left
     ·intro w'
      go_simp
      with_reducible rfl
     rotate_left
     ·simp only [Act.put, List.setIfInBounds_toArray, List.set_cons_zero, List.set_cons_succ, i64_w, i32_w]
      rfl
     refine pure_ (i := 4) (N := some 21) (v := ?_) (a' := ?_) #[tt_,tt_,tt_,tt_,tt_,ff_,ff_,ff_,ff_,ff_,ff_,ff_,ff_,ff_,ff_,ff_] rfl rfl (by kernel_rfl) (fun _ _ _ h => h) (Or.inl ⟨by rfl, ?_⟩) ?_ ?_
     rotate_left
     ·intro w'
      go_simp
      with_reducible rfl
     rotate_left
     ·simp only [Act.put, List.setIfInBounds_toArray, List.set_cons_zero, List.set_cons_succ, i64_w, i32_w]
      rfl
     refine pure_ (i := 5) (N := some 22) (v := ?_) (a' := ?_) #[tt_,tt_,tt_,tt_,tt_,tt_,ff_,ff_,ff_,ff_,ff_,ff_,ff_,ff_,ff_,ff_] rfl rfl (by kernel_rfl) (fun _ _ _ h => h) (Or.inl ⟨by rfl, ?_⟩) ?_ ?_
     rotate_left
     ·intro w'
      go_simp
      with_reducible rfl
     rotate_left
     ·simp only [Act.put, List.setIfInBounds_toArray, List.set_cons_zero, List.set_cons_succ, i64_w, i32_w]
      rfl
     refine pure_ (i := 7) (N := some 24) (v := ?_) (a' := ?_) #[tt_,tt_,tt_,tt_,tt_,tt_,ff_,tt_,ff_,ff_,ff_,ff_,ff_,ff_,ff_,ff_] rfl rfl (by kernel_rfl) (fun _ _ _ h => h) (Or.inl ⟨by rfl, ?_⟩) ?_ ?_
     rotate_left
     ·intro w'
      go_simp
      with_reducible rfl
     rotate_left
     ·simp only [Act.put, List.setIfInBounds_toArray, List.set_cons_zero, List.set_cons_succ, i64_w, i32_w]
      rfl
     refine pure_ (i := 8) (N := some 25) (v := ?_) (a' := ?_) #[tt_,tt_,tt_,tt_,tt_,tt_,ff_,tt_,tt_,ff_,ff_,ff_,ff_,ff_,ff_,ff_] rfl rfl (by kernel_rfl) (fun _ _ _ h => h) (Or.inl ⟨by rfl, ?_⟩) ?_ ?_
     rotate_left
     ·intro w'
      go_simp
      with_reducible rfl
     rotate_left
     ·simp only [Act.put, List.setIfInBounds_toArray, List.set_cons_zero, List.set_cons_succ, i64_w, i32_w]
      rfl
     refine pure_ (i := 12) (N := some 29) (v := ?_) (a' := ?_) #[tt_,tt_,tt_,tt_,tt_,tt_,ff_,tt_,tt_,ff_,ff_,ff_,tt_,ff_,ff_,ff_] rfl rfl (by kernel_rfl) (fun _ _ _ h => h) (Or.inl ⟨by rfl, ?_⟩) ?_ ?_
     rotate_left
     ·intro w'
      go_simp
      with_reducible rfl
     rotate_left
     ·simp only [Act.put, List.setIfInBounds_toArray, List.set_cons_zero, List.set_cons_succ, i64_w, i32_w]
      rfl
     refine take_ (i := 6) (N := some 23) (v := ?_) (a' := ?_) #[tt_,tt_,tt_,tt_,tt_,tt_,tt_,tt_,tt_,ff_,ff_,ff_,tt_,ff_,ff_,ff_] rfl rfl (by kernel_rfl) (fun _ _ _ h => h) (Or.inl ⟨by rfl, ?_⟩) hHeld ?_ ?_
     rotate_left
     ·rintro w' ⟨s0, s1, s2⟩
      go_simp
      with_reducible rfl
     rotate_left
     ·simp only [Act.put, List.setIfInBounds_toArray, List.set_cons_zero, List.set_cons_succ, i64_w, i32_w]
      rfl
     refine pure_ (i := 9) (N := some 26) (v := ?_) (a' := ?_) #[tt_,tt_,tt_,tt_,tt_,tt_,tt_,tt_,tt_,tt_,ff_,ff_,tt_,ff_,ff_,ff_] rfl rfl (by kernel_rfl) (fun _ _ _ h => h) (Or.inl ⟨by rfl, ?_⟩) ?_ ?_
     rotate_left
     ·intro w'
      go_simp
      with_reducible rfl
     rotate_left
     ·simp only [Act.put, List.setIfInBounds_toArray, List.set_cons_zero, List.set_cons_succ, i64_w, i32_w]
      rfl
     refine pure_ (i := 10) (N := some 27) (v := ?_) (a' := ?_) #[tt_,tt_,tt_,tt_,tt_,tt_,tt_,tt_,tt_,tt_,tt_,ff_,tt_,ff_,ff_,ff_] rfl rfl (by kernel_rfl) (fun _ _ _ h => h) (Or.inl ⟨by rfl, ?_⟩) ?_ ?_
     rotate_left
     ·intro w'
      go_simp
      with_reducible rfl
     rotate_left
     ·simp only [Act.put, List.setIfInBounds_toArray, List.set_cons_zero, List.set_cons_succ, i64_w, i32_w]
      rfl
     refine take_ (i := 11) (N := some 28) (v := ?_) (a' := ?_) #[tt_,tt_,tt_,tt_,tt_,tt_,tt_,tt_,tt_,tt_,tt_,tt_,tt_,ff_,ff_,ff_] rfl rfl (by kernel_rfl) (fun _ _ _ h => h) (Or.inl ⟨by rfl, ?_⟩) hHeld ?_ ?_
     rotate_left
     ·rintro w' ⟨s0, s1, s2⟩
      go_simp
      with_reducible rfl
     rotate_left
     ·simp only [Act.put, List.setIfInBounds_toArray, List.set_cons_zero, List.set_cons_succ, i64_w, i32_w]
      rfl
     refine take_ (i := 13) (N := some 30) (v := ?_) (a' := ?_) #[tt_,tt_,tt_,tt_,tt_,tt_,tt_,tt_,tt_,tt_,tt_,tt_,tt_,tt_,ff_,ff_] rfl rfl (by kernel_rfl) (fun _ _ _ h => h) (Or.inl ⟨by rfl, ?_⟩) hHeld ?_ ?_
     rotate_left
     ·rintro w' ⟨s0, s1, s2⟩
      go_simp
      with_reducible rfl
     rotate_left
     ·simp only [Act.put, List.setIfInBounds_toArray, List.set_cons_zero, List.set_cons_succ, i64_w, i32_w]
      rfl
     refine one_ (i := 14) (N := some 31) #[tt_,tt_,tt_,tt_,tt_,tt_,tt_,tt_,tt_,tt_,tt_,tt_,tt_,tt_,tt_,ff_] rfl rfl (by kernel_rfl) (by decide) (fun K hK => ?_)
     refine goes_ Try.func48 (by kernel_rfl) rfl #[.int .u32 ((A.gk l j).2 : Int), .int .u32 ((A.gk l i).2 : Int)] (by rfl) rfl rfl (by (try simp only [List.map_toArray, List.map_cons, List.map_nil]); rfl) ?_
     with_reducible refine (Equal_calls _ _ HGJ.out.2 HG.out.2 _).mono ?_
     rw [C5.out]
     rintro e _ ⟨rfl, rfl⟩
     refine ⟨_, rfl, ?_⟩
     refine hK.out _ _ ⟨gs, j1, cK1⟩ (fun hHeld => ?_)
     clear hK K
     refine norm_ (a' := ?_) ?_ ?_
     rotate_left
     ·show Act.put _ (some 31) _ = _
      simp only [Act.put, List.setIfInBounds_toArray, List.set_cons_zero, List.set_cons_succ, i64_w, i32_w]
      rfl
     refine pure_ (i := 15) (N := some 32) (v := ?_) (a' := ?_) #[tt_,tt_,tt_,tt_,tt_,tt_,tt_,tt_,tt_,tt_,tt_,tt_,tt_,tt_,tt_,tt_] rfl rfl (by kernel_rfl) (fun _ _ _ h => h) (Or.inl ⟨by rfl, ?_⟩) ?_ ?_
     rotate_left
     ·intro w'
      go_simp
      with_reducible rfl
     rotate_left
     ·simp only [Act.put, List.setIfInBounds_toArray, List.set_cons_zero, List.set_cons_succ, i64_w, i32_w]
      rfl
     refine done_ (by kernel_rfl) ?_
     go_wp2
     go_ret2
     exact .inl ⟨flat_at l j (by have := HJ.out; have := HIN.out; omega) (by rw [← HJ.out]; exact C5.out), rfl, below_step HB.out B_3.out⟩
  ·obtain rfl : i = n := by omega
   have dd : decide ((i : Int) < (i : Int)) = false := decide_eq_false (by omega)
   have hVn := HV.out
   rw [List.take_of_length_le (by have := HL.out; omega)] at hVn
   have HVN : Aside0 (KR wr w.heap.size (.slice Av nv cv) (trn l)) := ⟨hVn⟩
   have HFL : Aside0 (flatB l = false) := ⟨flat_of l (fun j hj => HE.out j (by have := HL.out; omega))⟩
   clear hin h6 hVn
   go_wp2_with (first | ((with_reducible refine gate_dst (N := 44) rfl ?_); refine box_event ?hg (N := 44) ?hd (cs := #[.slice Av nv cv]) (t := 78) ?hr ?_; (case hd => rfl); (case hg => rfl); (case hr => first | (go_simp; done) | (go_simp; rfl)); intro gc hg_ w7 hm_ hb_; have B7 := Aside0.mk (hb_); have M7 := Aside0.mk (hm_); clear hm_ hb_ hg_))
   go_ret2
   obtain ⟨k1, k2, k3⟩ := (HVN.out.below B7.out).kn
   exact .inr ⟨HFL.out, gc, Av, cv, rfl, ⟨by rw [← k1]; exact M7.out, by rw [← k1]; exact k2, k3⟩, below_step HB.out B7.out⟩
end Go.Proofs.Ytkicfaboibfbpaa.A
end
section
set_option linter.unusedVariables false
set_option linter.unusedSimpArgs false
namespace Go.Proofs.Ytkicfaboibfbpaa.A
open Go.RowKit Go.Proofs.YtkicfaboibfbpaaW.PrintWords Go.Proofs.YtkicfaboibfbpaaW.PrintLast Go.Proofs.YtkicfaboibfbpaaW.PrintMore Go.Proofs.Ytkicfaboibfbpaa.PCurveAts
set_option maxHeartbeats 8000000 in
theorem rTurn_calls (A : Option Addr) (c : Nat) (l : List (Nat × Nat)) (hv : Val l) (w : World) (hc : l.length ≤ c) (hK : Kn w A l) :
    Calls Try.prog 23 #[.slice A l.length c] w fun e w' => (flatB l = true ∧ e = .returned (.tuple #[.slice none 0 0, .int .i64 44]) ∧ Below w.heap.size w w') ∨ (flatB l = false ∧ ∃ B n2 c2, e = .returned (.tuple #[.slice B n2 c2, .int .i64 0]) ∧ KR w' w.heap.size (.slice B n2 c2) (trn l) ∧ Below w.heap.size w w') := by
 have two := hv.two
 have h64 := hv.most
 obtain ⟨n, hn⟩ : ∃ n, l.length = n := ⟨_, rfl⟩
 have HC : Aside0 (Kn w A l) := ⟨hK⟩
 obtain ⟨ad, rfl, _⟩ := kn_at hK 0 (by omega)
 have HL := Aside0.mk hn
 have HVV : Aside0 (Val l) := ⟨hv⟩
 have H6 : Aside0 (2 ≤ n ∧ n ≤ 64) := ⟨by omega⟩
 rw [hn]
 clear hv hK two h64 hc hn
 go_enter Try.func23, Try.ntmps23
 go_wp2
 go_loopg [4, 5] n (fun kx s4 s12 wr => ∃ (i : Nat) (Av : Option Addr) (nv cv : Nat), s12 = .int .i64 (i : Int) ∧ s4 = .slice Av nv cv ∧ i ≤ n ∧ n - i ≤ kx ∧ Aside0 (Below w.heap.size w wr) ∧ Aside0 (KR wr w.heap.size (.slice Av nv cv) (trn (l.take i))) ∧ Aside0 (∀ j, j + 1 < i → eqv (A.gk l j).2 (A.gk l (j + 1)).2 = false))
 case atStart => exact ⟨0, none, 0, 0, rfl, rfl, Nat.zero_le _, by omega, ⟨Below.refl _ _⟩, ⟨KR.nil _ _⟩, ⟨fun j hj => absurd hj (by omega)⟩⟩
 case round =>
  obtain ⟨i, Av, nv, cv, rfl, rfl, i1, i2, HB, HV, HE⟩ := hrel
  have h6 := H6.out
  by_cases hin : i < n
  ·have HINN := Aside0.mk hin
   have HIN : Aside0 (i < l.length) := ⟨by have := HL.out; omega⟩
   have e1i : decide ((0 : Int) ≤ (i : Int)) = true := decide_eq_true (by omega)
   have e2i : decide ((i : Int) < (n : Int)) = true := decide_eq_true (by omega)
   have e5i : ((0 : Int) ≤ (i : Int)) = True := eq_true (by omega)
   have e6i : ((i : Int) < (n : Int)) = True := eq_true (by omega)
   have e7i : (i < n) = True := eq_true (by omega)
   have wi : IntKind.i64.wrap ((i : Int) + 1) = ((i + 1 : Nat) : Int) := by rw [show IntKind.i64.wrap ((i : Int) + 1) = wrap64 ((i : Int) + 1) from i64_w _, w64 (by omega) (by omega)]; omega
   have HLE : Aside0 ((((trn (l.take i)).map kI).length + 1) * 8 ≤ 140737488355328) := ⟨by rw [List.length_map, trn_len, List.length_take]; omega⟩
   have B_0 : Aside0 (Below wr.heap.size wr wr) := ⟨Below.refl _ _⟩
   have HG := Aside0.mk (gk_ok HVV.out.ok i)
   by_cases h0 : i = 0
   ·have t1 : decide ((i : Int) > 0) = false := decide_eq_false (by omega)
    have t2 : decide ((0 : Int) < (i : Int)) = false := decide_eq_false (by omega)
    have t3 : (0 < i) = False := eq_false (by omega)
    have H0 := Aside0.mk h0
    clear h0 hin h6
    go_wp2
    have B_1 : Aside0 (Below wr.heap.size wr wr.drew) := ⟨below_drew B_0.out⟩
    clear B_0
    refine start_ (n := 16) (S := fun w' => True) (ds := []) #[ff_,ff_,ff_,ff_,ff_,ff_,ff_,ff_,ff_,ff_,ff_,ff_,ff_,ff_,ff_,ff_] (by kernel_rfl) rfl rfl trivial (fun hHeld => ?_)
    generalize wr.drew = w1 at *
    refine pure_ (i := 0) (N := some 12) (v := ?_) (a' := ?_) #[tt_,ff_,ff_,ff_,ff_,ff_,ff_,ff_,ff_,ff_,ff_,ff_,ff_,ff_,ff_,ff_] rfl rfl (by kernel_rfl) (fun _ _ _ h => h) (Or.inl ⟨by rfl, ?_⟩) ?_ ?_
    rotate_left
    ·intro w'
     go_simp
     with_reducible rfl
    rotate_left
    ·simp only [Act.put, List.setIfInBounds_toArray, List.set_cons_zero, List.set_cons_succ, i64_w, i32_w]
     rfl
    refine pure_ (i := 1) (N := some 13) (v := ?_) (a' := ?_) #[tt_,tt_,ff_,ff_,ff_,ff_,ff_,ff_,ff_,ff_,ff_,ff_,ff_,ff_,ff_,ff_] rfl rfl (by kernel_rfl) (fun _ _ _ h => h) (Or.inl ⟨by rfl, ?_⟩) ?_ ?_
    rotate_left
    ·intro w'
     go_simp
     with_reducible rfl
    rotate_left
    ·simp only [Act.put, List.setIfInBounds_toArray, List.set_cons_zero, List.set_cons_succ, i64_w, i32_w]
     rfl
    refine pure_ (i := 2) (N := some 14) (v := ?_) (a' := ?_) #[tt_,tt_,tt_,ff_,ff_,ff_,ff_,ff_,ff_,ff_,ff_,ff_,ff_,ff_,ff_,ff_] rfl rfl (by kernel_rfl) (fun _ _ _ h => h) (Or.inl ⟨by rfl, ?_⟩) ?_ ?_
    rotate_left
    ·intro w'
     go_simp
     with_reducible rfl
    rotate_left
    ·simp only [Act.put, List.setIfInBounds_toArray, List.set_cons_zero, List.set_cons_succ, i64_w, i32_w]
     rfl
    refine pure_ (i := 3) (N := some 15) (v := undef) (a' := ?_) #[tt_,tt_,tt_,tt_,ff_,ff_,ff_,ff_,ff_,ff_,ff_,ff_,ff_,ff_,ff_,ff_] rfl rfl (by kernel_rfl) (fun _ _ _ h => h) (Or.inr ⟨by rfl, rfl⟩) ?_ ?_
    rotate_left
    ·simp only [Act.put, List.setIfInBounds_toArray, List.set_cons_zero, List.set_cons_succ, i64_w, i32_w]
     rfl
    refine pure_ (i := 4) (N := some 16) (v := undef) (a' := ?_) #[tt_,tt_,tt_,tt_,tt_,ff_,ff_,ff_,ff_,ff_,ff_,ff_,ff_,ff_,ff_,ff_] rfl rfl (by kernel_rfl) (fun _ _ _ h => h) (Or.inr ⟨by rfl, rfl⟩) ?_ ?_
    rotate_left
    ·simp only [Act.put, List.setIfInBounds_toArray, List.set_cons_zero, List.set_cons_succ, i64_w, i32_w]
     rfl
    refine pure_ (i := 5) (N := some 17) (v := undef) (a' := ?_) #[tt_,tt_,tt_,tt_,tt_,tt_,ff_,ff_,ff_,ff_,ff_,ff_,ff_,ff_,ff_,ff_] rfl rfl (by kernel_rfl) (fun _ _ _ h => h) (Or.inr ⟨by rfl, rfl⟩) ?_ ?_
    rotate_left
    ·simp only [Act.put, List.setIfInBounds_toArray, List.set_cons_zero, List.set_cons_succ, i64_w, i32_w]
     rfl
    refine pure_ (i := 6) (N := some 18) (v := undef) (a' := ?_) #[tt_,tt_,tt_,tt_,tt_,tt_,tt_,ff_,ff_,ff_,ff_,ff_,ff_,ff_,ff_,ff_] rfl rfl (by kernel_rfl) (fun _ _ _ h => h) (Or.inr ⟨by rfl, rfl⟩) ?_ ?_
    rotate_left
    ·simp only [Act.put, List.setIfInBounds_toArray, List.set_cons_zero, List.set_cons_succ, i64_w, i32_w]
     rfl
    refine pure_ (i := 7) (N := some 19) (v := undef) (a' := ?_) #[tt_,tt_,tt_,tt_,tt_,tt_,tt_,tt_,ff_,ff_,ff_,ff_,ff_,ff_,ff_,ff_] rfl rfl (by kernel_rfl) (fun _ _ _ h => h) (Or.inr ⟨by rfl, rfl⟩) ?_ ?_
    rotate_left
    ·simp only [Act.put, List.setIfInBounds_toArray, List.set_cons_zero, List.set_cons_succ, i64_w, i32_w]
     rfl
    refine pure_ (i := 8) (N := some 20) (v := undef) (a' := ?_) #[tt_,tt_,tt_,tt_,tt_,tt_,tt_,tt_,tt_,ff_,ff_,ff_,ff_,ff_,ff_,ff_] rfl rfl (by kernel_rfl) (fun _ _ _ h => h) (Or.inr ⟨by rfl, rfl⟩) ?_ ?_
    rotate_left
    ·simp only [Act.put, List.setIfInBounds_toArray, List.set_cons_zero, List.set_cons_succ, i64_w, i32_w]
     rfl
    refine pure_ (i := 9) (N := some 21) (v := undef) (a' := ?_) #[tt_,tt_,tt_,tt_,tt_,tt_,tt_,tt_,tt_,tt_,ff_,ff_,ff_,ff_,ff_,ff_] rfl rfl (by kernel_rfl) (fun _ _ _ h => h) (Or.inr ⟨by rfl, rfl⟩) ?_ ?_
    rotate_left
    ·simp only [Act.put, List.setIfInBounds_toArray, List.set_cons_zero, List.set_cons_succ, i64_w, i32_w]
     rfl
    refine pure_ (i := 10) (N := some 22) (v := undef) (a' := ?_) #[tt_,tt_,tt_,tt_,tt_,tt_,tt_,tt_,tt_,tt_,tt_,ff_,ff_,ff_,ff_,ff_] rfl rfl (by kernel_rfl) (fun _ _ _ h => h) (Or.inr ⟨by rfl, rfl⟩) ?_ ?_
    rotate_left
    ·simp only [Act.put, List.setIfInBounds_toArray, List.set_cons_zero, List.set_cons_succ, i64_w, i32_w]
     rfl
    refine pure_ (i := 11) (N := some 23) (v := undef) (a' := ?_) #[tt_,tt_,tt_,tt_,tt_,tt_,tt_,tt_,tt_,tt_,tt_,tt_,ff_,ff_,ff_,ff_] rfl rfl (by kernel_rfl) (fun _ _ _ h => h) (Or.inr ⟨by rfl, rfl⟩) ?_ ?_
    rotate_left
    ·simp only [Act.put, List.setIfInBounds_toArray, List.set_cons_zero, List.set_cons_succ, i64_w, i32_w]
     rfl
    refine pure_ (i := 12) (N := some 24) (v := undef) (a' := ?_) #[tt_,tt_,tt_,tt_,tt_,tt_,tt_,tt_,tt_,tt_,tt_,tt_,tt_,ff_,ff_,ff_] rfl rfl (by kernel_rfl) (fun _ _ _ h => h) (Or.inr ⟨by rfl, rfl⟩) ?_ ?_
    rotate_left
    ·simp only [Act.put, List.setIfInBounds_toArray, List.set_cons_zero, List.set_cons_succ, i64_w, i32_w]
     rfl
    refine pure_ (i := 13) (N := some 25) (v := undef) (a' := ?_) #[tt_,tt_,tt_,tt_,tt_,tt_,tt_,tt_,tt_,tt_,tt_,tt_,tt_,tt_,ff_,ff_] rfl rfl (by kernel_rfl) (fun _ _ _ h => h) (Or.inr ⟨by rfl, rfl⟩) ?_ ?_
    rotate_left
    ·simp only [Act.put, List.setIfInBounds_toArray, List.set_cons_zero, List.set_cons_succ, i64_w, i32_w]
     rfl
    refine pure_ (i := 14) (N := some 26) (v := undef) (a' := ?_) #[tt_,tt_,tt_,tt_,tt_,tt_,tt_,tt_,tt_,tt_,tt_,tt_,tt_,tt_,tt_,ff_] rfl rfl (by kernel_rfl) (fun _ _ _ h => h) (Or.inr ⟨by rfl, rfl⟩) ?_ ?_
    rotate_left
    ·simp only [Act.put, List.setIfInBounds_toArray, List.set_cons_zero, List.set_cons_succ, i64_w, i32_w]
     rfl
    refine pure_ (i := 15) (N := some 27) (v := ?_) (a' := ?_) #[tt_,tt_,tt_,tt_,tt_,tt_,tt_,tt_,tt_,tt_,tt_,tt_,tt_,tt_,tt_,tt_] rfl rfl (by kernel_rfl) (fun _ _ _ h => h) (Or.inl ⟨by rfl, ?_⟩) ?_ ?_
    rotate_left
    ·intro w'
     go_simp
     with_reducible rfl
    rotate_left
    ·simp only [Act.put, List.setIfInBounds_toArray, List.set_cons_zero, List.set_cons_succ, i64_w, i32_w]
     rfl
    refine done_ (by kernel_rfl) ?_
    go_wp2
    have B_2 : Aside0 (Below wr.heap.size wr w1.drew) := ⟨below_drew B_1.out⟩
    clear B_1
    obtain ⟨r0, r1⟩ := kn_at2 (HC.out.below (below_step HB.out B_2.out)) i HIN.out
    refine start_ (n := 15) (S := fun w' => w'.cell? ⟨(ad.add (i * 2)).block, (ad.add (i * 2)).off + 1, none⟩ = some (.int .u32 ((A.gk l i).2 : Int)) ∧ w'.cell? (ad.add (i * 2)) = some (.int .u32 ((A.gk l i).1 : Int))) (ds := [13]) #[ff_,ff_,ff_,ff_,ff_,ff_,ff_,ff_,ff_,ff_,ff_,ff_,ff_,ff_,ff_] (by kernel_rfl) rfl rfl ⟨r1, r0⟩ (fun hHeld => ?_)
    generalize w1.drew = w2 at *
    refine pure_ (i := 0) (N := some 28) (v := ?_) (a' := ?_) #[tt_,ff_,ff_,ff_,ff_,ff_,ff_,ff_,ff_,ff_,ff_,ff_,ff_,ff_,ff_] rfl rfl (by kernel_rfl) (fun _ _ _ h => h) (Or.inl ⟨by rfl, ?_⟩) ?_ ?_
    rotate_left
    ·intro w'
     go_simp
     with_reducible rfl
    rotate_left
    ·simp only [Act.put, List.setIfInBounds_toArray, List.set_cons_zero, List.set_cons_succ, i64_w, i32_w]
     rfl
    refine pure_ (i := 1) (N := some 29) (v := ?_) (a' := ?_) #[tt_,tt_,ff_,ff_,ff_,ff_,ff_,ff_,ff_,ff_,ff_,ff_,ff_,ff_,ff_] rfl rfl (by kernel_rfl) (fun _ _ _ h => h) (Or.inl ⟨by rfl, ?_⟩) ?_ ?_
    rotate_left
    ·intro w'
     go_simp
     with_reducible rfl
    rotate_left
    ·simp only [Act.put, List.setIfInBounds_toArray, List.set_cons_zero, List.set_cons_succ, i64_w, i32_w]
     rfl
    refine pure_ (i := 2) (N := some 30) (v := ?_) (a' := ?_) #[tt_,tt_,tt_,ff_,ff_,ff_,ff_,ff_,ff_,ff_,ff_,ff_,ff_,ff_,ff_] rfl rfl (by kernel_rfl) (fun _ _ _ h => h) (Or.inl ⟨by rfl, ?_⟩) ?_ ?_
    rotate_left
    ·intro w'
     go_simp
     with_reducible rfl
    rotate_left
    ·simp only [Act.put, List.setIfInBounds_toArray, List.set_cons_zero, List.set_cons_succ, i64_w, i32_w]
     rfl
    refine pure_ (i := 3) (N := some 31) (v := ?_) (a' := ?_) #[tt_,tt_,tt_,tt_,ff_,ff_,ff_,ff_,ff_,ff_,ff_,ff_,ff_,ff_,ff_] rfl rfl (by kernel_rfl) (fun _ _ _ h => h) (Or.inl ⟨by rfl, ?_⟩) ?_ ?_
    rotate_left
    ·intro w'
     go_simp
     with_reducible rfl
    rotate_left
    ·simp only [Act.put, List.setIfInBounds_toArray, List.set_cons_zero, List.set_cons_succ, i64_w, i32_w]
     rfl
    refine pure_ (i := 4) (N := some 32) (v := ?_) (a' := ?_) #[tt_,tt_,tt_,tt_,tt_,ff_,ff_,ff_,ff_,ff_,ff_,ff_,ff_,ff_,ff_] rfl rfl (by kernel_rfl) (fun _ _ _ h => h) (Or.inl ⟨by rfl, ?_⟩) ?_ ?_
    rotate_left
    ·intro w'
     go_simp
     with_reducible rfl
    rotate_left
    ·simp only [Act.put, List.setIfInBounds_toArray, List.set_cons_zero, List.set_cons_succ, i64_w, i32_w]
     rfl
    refine pure_ (i := 6) (N := some 34) (v := ?_) (a' := ?_) #[tt_,tt_,tt_,tt_,tt_,ff_,tt_,ff_,ff_,ff_,ff_,ff_,ff_,ff_,ff_] rfl rfl (by kernel_rfl) (fun _ _ _ h => h) (Or.inl ⟨by rfl, ?_⟩) ?_ ?_
    rotate_left
    ·intro w'
     go_simp
     with_reducible rfl
    rotate_left
    ·simp only [Act.put, List.setIfInBounds_toArray, List.set_cons_zero, List.set_cons_succ, i64_w, i32_w]
     rfl
    refine pure_ (i := 7) (N := some 35) (v := ?_) (a' := ?_) #[tt_,tt_,tt_,tt_,tt_,ff_,tt_,tt_,ff_,ff_,ff_,ff_,ff_,ff_,ff_] rfl rfl (by kernel_rfl) (fun _ _ _ h => h) (Or.inl ⟨by rfl, ?_⟩) ?_ ?_
    rotate_left
    ·intro w'
     go_simp
     with_reducible rfl
    rotate_left
    ·simp only [Act.put, List.setIfInBounds_toArray, List.set_cons_zero, List.set_cons_succ, i64_w, i32_w]
     rfl
    refine pure_ (i := 8) (N := some 36) (v := ?_) (a' := ?_) #[tt_,tt_,tt_,tt_,tt_,ff_,tt_,tt_,tt_,ff_,ff_,ff_,ff_,ff_,ff_] rfl rfl (by kernel_rfl) (fun _ _ _ h => h) (Or.inl ⟨by rfl, ?_⟩) ?_ ?_
    rotate_left
    ·intro w'
     go_simp
     with_reducible rfl
    rotate_left
    ·simp only [Act.put, List.setIfInBounds_toArray, List.set_cons_zero, List.set_cons_succ, i64_w, i32_w]
     rfl
    refine pure_ (i := 9) (N := some 37) (v := ?_) (a' := ?_) #[tt_,tt_,tt_,tt_,tt_,ff_,tt_,tt_,tt_,tt_,ff_,ff_,ff_,ff_,ff_] rfl rfl (by kernel_rfl) (fun _ _ _ h => h) (Or.inl ⟨by rfl, ?_⟩) ?_ ?_
    rotate_left
    ·intro w'
     go_simp
     with_reducible rfl
    rotate_left
    ·simp only [Act.put, List.setIfInBounds_toArray, List.set_cons_zero, List.set_cons_succ, i64_w, i32_w]
     rfl
    refine take_ (i := 5) (N := some 33) (v := ?_) (a' := ?_) #[tt_,tt_,tt_,tt_,tt_,tt_,tt_,tt_,tt_,tt_,ff_,ff_,ff_,ff_,ff_] rfl rfl (by kernel_rfl) (fun _ _ _ h => h) (Or.inl ⟨by rfl, ?_⟩) hHeld ?_ ?_
    rotate_left
    ·rintro w' ⟨s0, s1⟩
     go_simp
     with_reducible rfl
    rotate_left
    ·simp only [Act.put, List.setIfInBounds_toArray, List.set_cons_zero, List.set_cons_succ, i64_w, i32_w]
     rfl
    refine take_ (i := 10) (N := some 38) (v := ?_) (a' := ?_) #[tt_,tt_,tt_,tt_,tt_,tt_,tt_,tt_,tt_,tt_,tt_,ff_,ff_,ff_,ff_] rfl rfl (by kernel_rfl) (fun _ _ _ h => h) (Or.inl ⟨by rfl, ?_⟩) hHeld ?_ ?_
    rotate_left
    ·rintro w' ⟨s0, s1⟩
     go_simp
     with_reducible rfl
    rotate_left
    ·simp only [Act.put, List.setIfInBounds_toArray, List.set_cons_zero, List.set_cons_succ, i64_w, i32_w]
     rfl
    refine pure_ (i := 11) (N := some 39) (v := ?_) (a' := ?_) #[tt_,tt_,tt_,tt_,tt_,tt_,tt_,tt_,tt_,tt_,tt_,tt_,ff_,ff_,ff_] rfl rfl (by kernel_rfl) (fun _ _ _ h => h) (Or.inl ⟨by rfl, ?_⟩) ?_ ?_
    rotate_left
    ·intro w'
     go_simp
     with_reducible rfl
    rotate_left
    ·simp only [Act.put, List.setIfInBounds_toArray, List.set_cons_zero, List.set_cons_succ, i64_w, i32_w]
     rfl
    refine one_ (i := 12) (N := some 40) #[tt_,tt_,tt_,tt_,tt_,tt_,tt_,tt_,tt_,tt_,tt_,tt_,tt_,ff_,ff_] rfl rfl (by kernel_rfl) (by decide) (fun K hK => ?_)
    refine value_ (w1 := ?_) (v := ?_) (by rfl) rfl ?_ ?_
    rotate_left 2
    ·go_simp
     constructor
     ·rfl
     ·rfl
    refine hK.out _ _ ⟨(pw_cell_below (below_alloc (Below.refl _ _) _) r1), (pw_cell_below (below_alloc (Below.refl _ _) _) r0)⟩ (fun hHeld => ?_)
    clear hK K
    refine norm_ (a' := ?_) ?_ ?_
    rotate_left
    ·show Act.put _ (some 40) _ = _
     simp only [Act.put, List.setIfInBounds_toArray, List.set_cons_zero, List.set_cons_succ, i64_w, i32_w]
     rfl
    refine last_ (i := 13) (N := some 41) #[tt_,tt_,tt_,tt_,tt_,tt_,tt_,tt_,tt_,tt_,tt_,tt_,tt_,tt_,ff_] rfl rfl (by kernel_rfl) (by decide) (fun K hK => ?_)
    refine Kd.R_append_step k43 (w0 := w) w.heap.size (by rfl) (.tmp 28) (.tmp 40) 23 43 (.agg #[.int .u32 0, .int .u32 0]) 8 rfl Try.underlying23 info43 rfl (by decide) (by decide) (.slice Av nv cv) ((trn (l.take i)).map kI) (kI ((A.gk l i).2, (A.gk l i).1)) [.int .u32 ((A.gk l i).2 : Int), .int .u32 ((A.gk l i).1 : Int)] (fun _ => True) (fun _ => False) rfl rfl (k43_mkM _ _ _ (kI ((A.gk l i).2, (A.gk l i).1))) (fun _ h => h.elim) (fun _ _ => trivial) (HV.out.below B_2.out) (below_step HB.out B_2.out) (below_step HB.out B_2.out).size HLE.out ?_
    intro v9 w9 hR hB hg hat
    have V9 : Aside0 (KR w9 w.heap.size v9 (trn (l.take (i + 1)))) := ⟨by rw [trn_take HIN.out]; unfold KR; rw [List.map_append]; exact hR⟩
    have B9 := Aside0.mk hB
    clear hR hB hg hat
    obtain ⟨A9, n9, c9, rfl, hn9⟩ := V9.out.as
    clear hn9
    refine hK.out _ _ ?_
    clear hK K
    refine norm_ (a' := ?_) ?_ ?_
    rotate_left
    ·show Act.put _ (some 41) _ = _
     simp only [Act.put, List.setIfInBounds_toArray, List.set_cons_zero, List.set_cons_succ, i64_w, i32_w]
     rfl
    refine pure_ (i := 14) (N := some 4) (v := ?_) (a' := ?_) #[tt_,tt_,tt_,tt_,tt_,tt_,tt_,tt_,tt_,tt_,tt_,tt_,tt_,tt_,tt_] rfl rfl (by kernel_rfl) (fun _ _ _ h => h) (Or.inl ⟨by rfl, ?_⟩) ?_ ?_
    rotate_left
    ·intro w'
     go_simp
     with_reducible rfl
    rotate_left
    ·simp only [Act.put, List.setIfInBounds_toArray, List.set_cons_zero, List.set_cons_succ, i64_w, i32_w]
     rfl
    refine done_ (by kernel_rfl) ?_
    go_wp2
    go_roundg (n - (i + 1))
    case measure => have := HINN.out; omega
    case rel => exact ⟨i + 1, A9, n9, c9, by first | rfl | (congr 1; omega), rfl, HINN.out, by omega, B9, V9, ⟨fun j hj => absurd hj (by have := H0.out; omega)⟩⟩
   ·obtain ⟨j, hj⟩ : ∃ j, i = j + 1 := ⟨i - 1, by omega⟩
    have t1 : decide ((i : Int) > 0) = true := decide_eq_true (by omega)
    have t2 : decide ((0 : Int) < (i : Int)) = true := decide_eq_true (by omega)
    have t3 : (0 < i) = True := eq_true (by omega)
    have wj : IntKind.i64.wrap ((i : Int) - 1) = (j : Int) := by rw [show IntKind.i64.wrap ((i : Int) - 1) = wrap64 ((i : Int) - 1) from i64_w _, w64 (by omega) (by omega)]; omega
    have e1j : decide ((0 : Int) ≤ (j : Int)) = true := decide_eq_true (by omega)
    have e2j : decide ((j : Int) < (n : Int)) = true := decide_eq_true (by omega)
    have e5j : ((0 : Int) ≤ (j : Int)) = True := eq_true (by omega)
    have e6j : ((j : Int) < (n : Int)) = True := eq_true (by omega)
    have e7j : (j < n) = True := eq_true (by omega)
    have HJ := Aside0.mk hj
    have HJN : Aside0 (j < l.length) := ⟨by have := HIN.out; omega⟩
    have HGJ := Aside0.mk (gk_ok HVV.out.ok j)
    clear h0 hin h6 hj
    cases c5 : eqv (A.gk l j).2 (A.gk l i).2
    ·have C5 := Aside0.mk c5
     go_wp2
     have B_1 : Aside0 (Below wr.heap.size wr wr.drew) := ⟨below_drew B_0.out⟩
     clear B_0
     obtain ⟨j0, j1⟩ := kn_at2 (HC.out.below (below_step HB.out B_1.out)) j HJN.out
     obtain ⟨r0, r1⟩ := kn_at2 (HC.out.below (below_step HB.out B_1.out)) i HIN.out
     refine start_ (n := 16) (S := fun w' => w'.cell? ⟨(ad.add (j * 2)).block, (ad.add (j * 2)).off + 1, none⟩ = some (.int .u32 ((A.gk l j).2 : Int)) ∧ w'.cell? ⟨(ad.add (i * 2)).block, (ad.add (i * 2)).off + 1, none⟩ = some (.int .u32 ((A.gk l i).2 : Int))) (ds := []) #[ff_,ff_,ff_,ff_,ff_,ff_,ff_,ff_,ff_,ff_,ff_,ff_,ff_,ff_,ff_,ff_] (by kernel_rfl) rfl rfl ⟨j1, r1⟩ (fun hHeld => ?_)
     generalize wr.drew = w1 at *
     refine pure_ (i := 0) (N := some 12) (v := ?_) (a' := ?_) #[tt_,ff_,ff_,ff_,ff_,ff_,ff_,ff_,ff_,ff_,ff_,ff_,ff_,ff_,ff_,ff_] rfl rfl (by kernel_rfl) (fun _ _ _ h => h) (Or.inl ⟨by rfl, ?_⟩) ?_ ?_
     rotate_left
     ·intro w'
      go_simp
      with_reducible rfl
     rotate_left
     ·simp only [Act.put, List.setIfInBounds_toArray, List.set_cons_zero, List.set_cons_succ, i64_w, i32_w]
      rfl
     refine pure_ (i := 1) (N := some 13) (v := ?_) (a' := ?_) #[tt_,tt_,ff_,ff_,ff_,ff_,ff_,ff_,ff_,ff_,ff_,ff_,ff_,ff_,ff_,ff_] rfl rfl (by kernel_rfl) (fun _ _ _ h => h) (Or.inl ⟨by rfl, ?_⟩) ?_ ?_
     rotate_left
     ·intro w'
      go_simp
      with_reducible rfl
     rotate_left
     ·simp only [Act.put, List.setIfInBounds_toArray, List.set_cons_zero, List.set_cons_succ, i64_w, i32_w]
      rfl
     refine pure_ (i := 2) (N := some 14) (v := ?_) (a' := ?_) #[tt_,tt_,tt_,ff_,ff_,ff_,ff_,ff_,ff_,ff_,ff_,ff_,ff_,ff_,ff_,ff_] rfl rfl (by kernel_rfl) (fun _ _ _ h => h) (Or.inl ⟨by rfl, ?_⟩) ?_ ?_
     rotate_left
     ·intro w'
      go_simp
      with_reducible rfl
     rotate_left
     ·simp only [Act.put, List.setIfInBounds_toArray, List.set_cons_zero, List.set_cons_succ, i64_w, i32_w]
      rfl
     refine pure_ (i := 3) (N := some 15) (v := ?_) (a' := ?_) #[tt_,tt_,tt_,tt_,ff_,ff_,ff_,ff_,ff_,ff_,ff_,ff_,ff_,ff_,ff_,ff_] rfl rfl (by kernel_rfl) (fun _ _ _ h => h) (Or.inl ⟨by rfl, ?_⟩) ?_ ?_
     rotate_left
     ·intro w'
      go_simp
      with_reducible rfl
     rotate_left
     ·simp only [Act.put, List.setIfInBounds_toArray, List.set_cons_zero, List.set_cons_succ, i64_w, i32_w]
      rfl
     refine pure_ (i := 4) (N := some 16) (v := ?_) (a' := ?_) #[tt_,tt_,tt_,tt_,tt_,ff_,ff_,ff_,ff_,ff_,ff_,ff_,ff_,ff_,ff_,ff_] rfl rfl (by kernel_rfl) (fun _ _ _ h => h) (Or.inl ⟨by rfl, ?_⟩) ?_ ?_
     rotate_left
     ·intro w'
      go_simp
      with_reducible rfl
     rotate_left
     ·simp only [Act.put, List.setIfInBounds_toArray, List.set_cons_zero, List.set_cons_succ, i64_w, i32_w]
      rfl
     refine pure_ (i := 5) (N := some 17) (v := ?_) (a' := ?_) #[tt_,tt_,tt_,tt_,tt_,tt_,ff_,ff_,ff_,ff_,ff_,ff_,ff_,ff_,ff_,ff_] rfl rfl (by kernel_rfl) (fun _ _ _ h => h) (Or.inl ⟨by rfl, ?_⟩) ?_ ?_
     rotate_left
     ·intro w'
      go_simp
      with_reducible rfl
     rotate_left
     ·simp only [Act.put, List.setIfInBounds_toArray, List.set_cons_zero, List.set_cons_succ, i64_w, i32_w]
      rfl
     refine pure_ (i := 6) (N := some 18) (v := ?_) (a' := ?_) #[tt_,tt_,tt_,tt_,tt_,tt_,tt_,ff_,ff_,ff_,ff_,ff_,ff_,ff_,ff_,ff_] rfl rfl (by kernel_rfl) (fun _ _ _ h => h) (Or.inl ⟨by rfl, ?_⟩) ?_ ?_
     rotate_left
     ·intro w'
      go_simp
      with_reducible rfl
     rotate_left
     ·simp only [Act.put, List.setIfInBounds_toArray, List.set_cons_zero, List.set_cons_succ, i64_w, i32_w]
      rfl
     refine pure_ (i := 7) (N := some 19) (v := ?_) (a' := ?_) #[tt_,tt_,tt_,tt_,tt_,tt_,tt_,tt_,ff_,ff_,ff_,ff_,ff_,ff_,ff_,ff_] rfl rfl (by kernel_rfl) (fun _ _ _ h => h) (Or.inl ⟨by rfl, ?_⟩) ?_ ?_
     rotate_left
     ·intro w'
      go_simp
      with_reducible rfl
     rotate_left
     ·simp only [Act.put, List.setIfInBounds_toArray, List.set_cons_zero, List.set_cons_succ, i64_w, i32_w]
      rfl
     refine pure_ (i := 9) (N := some 21) (v := ?_) (a' := ?_) #[tt_,tt_,tt_,tt_,tt_,tt_,tt_,tt_,ff_,tt_,ff_,ff_,ff_,ff_,ff_,ff_] rfl rfl (by kernel_rfl) (fun _ _ _ h => h) (Or.inl ⟨by rfl, ?_⟩) ?_ ?_
     rotate_left
     ·intro w'
      go_simp
      with_reducible rfl
     rotate_left
     ·simp only [Act.put, List.setIfInBounds_toArray, List.set_cons_zero, List.set_cons_succ, i64_w, i32_w]
      rfl
     refine pure_ (i := 10) (N := some 22) (v := ?_) (a' := ?_) #[tt_,tt_,tt_,tt_,tt_,tt_,tt_,tt_,ff_,tt_,tt_,ff_,ff_,ff_,ff_,ff_] rfl rfl (by kernel_rfl) (fun _ _ _ h => h) (Or.inl ⟨by rfl, ?_⟩) ?_ ?_
     rotate_left
     ·intro w'
      go_simp
      with_reducible rfl
     rotate_left
     ·simp only [Act.put, List.setIfInBounds_toArray, List.set_cons_zero, List.set_cons_succ, i64_w, i32_w]
      rfl
     refine pure_ (i := 11) (N := some 23) (v := ?_) (a' := ?_) #[tt_,tt_,tt_,tt_,tt_,tt_,tt_,tt_,ff_,tt_,tt_,tt_,ff_,ff_,ff_,ff_] rfl rfl (by kernel_rfl) (fun _ _ _ h => h) (Or.inl ⟨by rfl, ?_⟩) ?_ ?_
     rotate_left
     ·intro w'
      go_simp
      with_reducible rfl
     rotate_left
     ·simp only [Act.put, List.setIfInBounds_toArray, List.set_cons_zero, List.set_cons_succ, i64_w, i32_w]
      rfl
     refine pure_ (i := 12) (N := some 24) (v := ?_) (a' := ?_) #[tt_,tt_,tt_,tt_,tt_,tt_,tt_,tt_,ff_,tt_,tt_,tt_,tt_,ff_,ff_,ff_] rfl rfl (by kernel_rfl) (fun _ _ _ h => h) (Or.inl ⟨by rfl, ?_⟩) ?_ ?_
     rotate_left
     ·intro w'
      go_simp
      with_reducible rfl
     rotate_left
     ·simp only [Act.put, List.setIfInBounds_toArray, List.set_cons_zero, List.set_cons_succ, i64_w, i32_w]
      rfl
     refine take_ (i := 8) (N := some 20) (v := ?_) (a' := ?_) #[tt_,tt_,tt_,tt_,tt_,tt_,tt_,tt_,tt_,tt_,tt_,tt_,tt_,ff_,ff_,ff_] rfl rfl (by kernel_rfl) (fun _ _ _ h => h) (Or.inl ⟨by rfl, ?_⟩) hHeld ?_ ?_
     rotate_left
     ·rintro w' ⟨s0, s1⟩
      go_simp
      with_reducible rfl
     rotate_left
     ·simp only [Act.put, List.setIfInBounds_toArray, List.set_cons_zero, List.set_cons_succ, i64_w, i32_w]
      rfl
     refine take_ (i := 13) (N := some 25) (v := ?_) (a' := ?_) #[tt_,tt_,tt_,tt_,tt_,tt_,tt_,tt_,tt_,tt_,tt_,tt_,tt_,tt_,ff_,ff_] rfl rfl (by kernel_rfl) (fun _ _ _ h => h) (Or.inl ⟨by rfl, ?_⟩) hHeld ?_ ?_
     rotate_left
     ·rintro w' ⟨s0, s1⟩
      go_simp
      with_reducible rfl
     rotate_left
     ·simp only [Act.put, List.setIfInBounds_toArray, List.set_cons_zero, List.set_cons_succ, i64_w, i32_w]
      rfl
     refine one_ (i := 14) (N := some 26) #[tt_,tt_,tt_,tt_,tt_,tt_,tt_,tt_,tt_,tt_,tt_,tt_,tt_,tt_,tt_,ff_] rfl rfl (by kernel_rfl) (by decide) (fun K hK => ?_)
     refine goes_ Try.func25 (by kernel_rfl) rfl #[.int .u32 ((A.gk l j).2 : Int), .int .u32 ((A.gk l i).2 : Int)] (by rfl) rfl rfl (by (try simp only [List.map_toArray, List.map_cons, List.map_nil]); rfl) ?_
     with_reducible refine (rSame_calls _ _ HGJ.out.2 HG.out.2 _).mono ?_
     rw [C5.out]
     rintro e w2 ⟨rfl, hd⟩
     have hb := hd.below
     clear hd
     refine ⟨_, rfl, ?_⟩
     have hj1 := pw_cell_below hb j1
     have hr1 := pw_cell_below hb r1
     clear j0 j1 r0 r1
     have B_2 := Aside0.mk (below_step B_1.out hb)
     clear hb
     refine hK.out _ _ ⟨hj1, hr1⟩ (fun hHeld => ?_)
     clear hK K
     refine norm_ (a' := ?_) ?_ ?_
     rotate_left
     ·show Act.put _ (some 26) _ = _
      simp only [Act.put, List.setIfInBounds_toArray, List.set_cons_zero, List.set_cons_succ, i64_w, i32_w]
      rfl
     refine pure_ (i := 15) (N := some 27) (v := ?_) (a' := ?_) #[tt_,tt_,tt_,tt_,tt_,tt_,tt_,tt_,tt_,tt_,tt_,tt_,tt_,tt_,tt_,tt_] rfl rfl (by kernel_rfl) (fun _ _ _ h => h) (Or.inl ⟨by rfl, ?_⟩) ?_ ?_
     rotate_left
     ·intro w'
      go_simp
      with_reducible rfl
     rotate_left
     ·simp only [Act.put, List.setIfInBounds_toArray, List.set_cons_zero, List.set_cons_succ, i64_w, i32_w]
      rfl
     refine done_ (by kernel_rfl) ?_
     clear hj1 hr1
     go_wp2
     have B_3 : Aside0 (Below wr.heap.size wr w2.drew) := ⟨below_drew B_2.out⟩
     clear B_2
     obtain ⟨r0, r1⟩ := kn_at2 (HC.out.below (below_step HB.out B_3.out)) i HIN.out
     refine start_ (n := 15) (S := fun w' => w'.cell? ⟨(ad.add (i * 2)).block, (ad.add (i * 2)).off + 1, none⟩ = some (.int .u32 ((A.gk l i).2 : Int)) ∧ w'.cell? (ad.add (i * 2)) = some (.int .u32 ((A.gk l i).1 : Int))) (ds := [13]) #[ff_,ff_,ff_,ff_,ff_,ff_,ff_,ff_,ff_,ff_,ff_,ff_,ff_,ff_,ff_] (by kernel_rfl) rfl rfl ⟨r1, r0⟩ (fun hHeld => ?_)
     generalize w2.drew = w3 at *
     refine pure_ (i := 0) (N := some 28) (v := ?_) (a' := ?_) #[tt_,ff_,ff_,ff_,ff_,ff_,ff_,ff_,ff_,ff_,ff_,ff_,ff_,ff_,ff_] rfl rfl (by kernel_rfl) (fun _ _ _ h => h) (Or.inl ⟨by rfl, ?_⟩) ?_ ?_
     rotate_left
     ·intro w'
      go_simp
      with_reducible rfl
     rotate_left
     ·simp only [Act.put, List.setIfInBounds_toArray, List.set_cons_zero, List.set_cons_succ, i64_w, i32_w]
      rfl
     refine pure_ (i := 1) (N := some 29) (v := ?_) (a' := ?_) #[tt_,tt_,ff_,ff_,ff_,ff_,ff_,ff_,ff_,ff_,ff_,ff_,ff_,ff_,ff_] rfl rfl (by kernel_rfl) (fun _ _ _ h => h) (Or.inl ⟨by rfl, ?_⟩) ?_ ?_
     rotate_left
     ·intro w'
      go_simp
      with_reducible rfl
     rotate_left
     ·simp only [Act.put, List.setIfInBounds_toArray, List.set_cons_zero, List.set_cons_succ, i64_w, i32_w]
      rfl
     refine pure_ (i := 2) (N := some 30) (v := ?_) (a' := ?_) #[tt_,tt_,tt_,ff_,ff_,ff_,ff_,ff_,ff_,ff_,ff_,ff_,ff_,ff_,ff_] rfl rfl (by kernel_rfl) (fun _ _ _ h => h) (Or.inl ⟨by rfl, ?_⟩) ?_ ?_
     rotate_left
     ·intro w'
      go_simp
      with_reducible rfl
     rotate_left
     ·simp only [Act.put, List.setIfInBounds_toArray, List.set_cons_zero, List.set_cons_succ, i64_w, i32_w]
      rfl
     refine pure_ (i := 3) (N := some 31) (v := ?_) (a' := ?_) #[tt_,tt_,tt_,tt_,ff_,ff_,ff_,ff_,ff_,ff_,ff_,ff_,ff_,ff_,ff_] rfl rfl (by kernel_rfl) (fun _ _ _ h => h) (Or.inl ⟨by rfl, ?_⟩) ?_ ?_
     rotate_left
     ·intro w'
      go_simp
      with_reducible rfl
     rotate_left
     ·simp only [Act.put, List.setIfInBounds_toArray, List.set_cons_zero, List.set_cons_succ, i64_w, i32_w]
      rfl
     refine pure_ (i := 4) (N := some 32) (v := ?_) (a' := ?_) #[tt_,tt_,tt_,tt_,tt_,ff_,ff_,ff_,ff_,ff_,ff_,ff_,ff_,ff_,ff_] rfl rfl (by kernel_rfl) (fun _ _ _ h => h) (Or.inl ⟨by rfl, ?_⟩) ?_ ?_
     rotate_left
     ·intro w'
      go_simp
      with_reducible rfl
     rotate_left
     ·simp only [Act.put, List.setIfInBounds_toArray, List.set_cons_zero, List.set_cons_succ, i64_w, i32_w]
      rfl
     refine pure_ (i := 6) (N := some 34) (v := ?_) (a' := ?_) #[tt_,tt_,tt_,tt_,tt_,ff_,tt_,ff_,ff_,ff_,ff_,ff_,ff_,ff_,ff_] rfl rfl (by kernel_rfl) (fun _ _ _ h => h) (Or.inl ⟨by rfl, ?_⟩) ?_ ?_
     rotate_left
     ·intro w'
      go_simp
      with_reducible rfl
     rotate_left
     ·simp only [Act.put, List.setIfInBounds_toArray, List.set_cons_zero, List.set_cons_succ, i64_w, i32_w]
      rfl
     refine pure_ (i := 7) (N := some 35) (v := ?_) (a' := ?_) #[tt_,tt_,tt_,tt_,tt_,ff_,tt_,tt_,ff_,ff_,ff_,ff_,ff_,ff_,ff_] rfl rfl (by kernel_rfl) (fun _ _ _ h => h) (Or.inl ⟨by rfl, ?_⟩) ?_ ?_
     rotate_left
     ·intro w'
      go_simp
      with_reducible rfl
     rotate_left
     ·simp only [Act.put, List.setIfInBounds_toArray, List.set_cons_zero, List.set_cons_succ, i64_w, i32_w]
      rfl
     refine pure_ (i := 8) (N := some 36) (v := ?_) (a' := ?_) #[tt_,tt_,tt_,tt_,tt_,ff_,tt_,tt_,tt_,ff_,ff_,ff_,ff_,ff_,ff_] rfl rfl (by kernel_rfl) (fun _ _ _ h => h) (Or.inl ⟨by rfl, ?_⟩) ?_ ?_
     rotate_left
     ·intro w'
      go_simp
      with_reducible rfl
     rotate_left
     ·simp only [Act.put, List.setIfInBounds_toArray, List.set_cons_zero, List.set_cons_succ, i64_w, i32_w]
      rfl
     refine pure_ (i := 9) (N := some 37) (v := ?_) (a' := ?_) #[tt_,tt_,tt_,tt_,tt_,ff_,tt_,tt_,tt_,tt_,ff_,ff_,ff_,ff_,ff_] rfl rfl (by kernel_rfl) (fun _ _ _ h => h) (Or.inl ⟨by rfl, ?_⟩) ?_ ?_
     rotate_left
     ·intro w'
      go_simp
      with_reducible rfl
     rotate_left
     ·simp only [Act.put, List.setIfInBounds_toArray, List.set_cons_zero, List.set_cons_succ, i64_w, i32_w]
      rfl
     refine take_ (i := 5) (N := some 33) (v := ?_) (a' := ?_) #[tt_,tt_,tt_,tt_,tt_,tt_,tt_,tt_,tt_,tt_,ff_,ff_,ff_,ff_,ff_] rfl rfl (by kernel_rfl) (fun _ _ _ h => h) (Or.inl ⟨by rfl, ?_⟩) hHeld ?_ ?_
     rotate_left
     ·rintro w' ⟨s0, s1⟩
      go_simp
      with_reducible rfl
     rotate_left
     ·simp only [Act.put, List.setIfInBounds_toArray, List.set_cons_zero, List.set_cons_succ, i64_w, i32_w]
      rfl
     refine take_ (i := 10) (N := some 38) (v := ?_) (a' := ?_) #[tt_,tt_,tt_,tt_,tt_,tt_,tt_,tt_,tt_,tt_,tt_,ff_,ff_,ff_,ff_] rfl rfl (by kernel_rfl) (fun _ _ _ h => h) (Or.inl ⟨by rfl, ?_⟩) hHeld ?_ ?_
     rotate_left
     ·rintro w' ⟨s0, s1⟩
      go_simp
      with_reducible rfl
     rotate_left
     ·simp only [Act.put, List.setIfInBounds_toArray, List.set_cons_zero, List.set_cons_succ, i64_w, i32_w]
      rfl
     refine pure_ (i := 11) (N := some 39) (v := ?_) (a' := ?_) #[tt_,tt_,tt_,tt_,tt_,tt_,tt_,tt_,tt_,tt_,tt_,tt_,ff_,ff_,ff_] rfl rfl (by kernel_rfl) (fun _ _ _ h => h) (Or.inl ⟨by rfl, ?_⟩) ?_ ?_
     rotate_left
     ·intro w'
      go_simp
      with_reducible rfl
     rotate_left
     ·simp only [Act.put, List.setIfInBounds_toArray, List.set_cons_zero, List.set_cons_succ, i64_w, i32_w]
      rfl
     refine one_ (i := 12) (N := some 40) #[tt_,tt_,tt_,tt_,tt_,tt_,tt_,tt_,tt_,tt_,tt_,tt_,tt_,ff_,ff_] rfl rfl (by kernel_rfl) (by decide) (fun K hK => ?_)
     refine value_ (w1 := ?_) (v := ?_) (by rfl) rfl ?_ ?_
     rotate_left 2
     ·go_simp
      constructor
      ·rfl
      ·rfl
     refine hK.out _ _ ⟨(pw_cell_below (below_alloc (Below.refl _ _) _) r1), (pw_cell_below (below_alloc (Below.refl _ _) _) r0)⟩ (fun hHeld => ?_)
     clear hK K
     refine norm_ (a' := ?_) ?_ ?_
     rotate_left
     ·show Act.put _ (some 40) _ = _
      simp only [Act.put, List.setIfInBounds_toArray, List.set_cons_zero, List.set_cons_succ, i64_w, i32_w]
      rfl
     refine last_ (i := 13) (N := some 41) #[tt_,tt_,tt_,tt_,tt_,tt_,tt_,tt_,tt_,tt_,tt_,tt_,tt_,tt_,ff_] rfl rfl (by kernel_rfl) (by decide) (fun K hK => ?_)
     refine Kd.R_append_step k43 (w0 := w) w.heap.size (by rfl) (.tmp 28) (.tmp 40) 23 43 (.agg #[.int .u32 0, .int .u32 0]) 8 rfl Try.underlying23 info43 rfl (by decide) (by decide) (.slice Av nv cv) ((trn (l.take i)).map kI) (kI ((A.gk l i).2, (A.gk l i).1)) [.int .u32 ((A.gk l i).2 : Int), .int .u32 ((A.gk l i).1 : Int)] (fun _ => True) (fun _ => False) rfl rfl (k43_mkM _ _ _ (kI ((A.gk l i).2, (A.gk l i).1))) (fun _ h => h.elim) (fun _ _ => trivial) (HV.out.below B_3.out) (below_step HB.out B_3.out) (below_step HB.out B_3.out).size HLE.out ?_
     intro v9 w9 hR hB hg hat
     have V9 : Aside0 (KR w9 w.heap.size v9 (trn (l.take (i + 1)))) := ⟨by rw [trn_take HIN.out]; unfold KR; rw [List.map_append]; exact hR⟩
     have B9 := Aside0.mk hB
     clear hR hB hg hat
     obtain ⟨A9, n9, c9, rfl, hn9⟩ := V9.out.as
     clear hn9
     refine hK.out _ _ ?_
     clear hK K
     refine norm_ (a' := ?_) ?_ ?_
     rotate_left
     ·show Act.put _ (some 41) _ = _
      simp only [Act.put, List.setIfInBounds_toArray, List.set_cons_zero, List.set_cons_succ, i64_w, i32_w]
      rfl
     refine pure_ (i := 14) (N := some 4) (v := ?_) (a' := ?_) #[tt_,tt_,tt_,tt_,tt_,tt_,tt_,tt_,tt_,tt_,tt_,tt_,tt_,tt_,tt_] rfl rfl (by kernel_rfl) (fun _ _ _ h => h) (Or.inl ⟨by rfl, ?_⟩) ?_ ?_
     rotate_left
     ·intro w'
      go_simp
      with_reducible rfl
     rotate_left
     ·simp only [Act.put, List.setIfInBounds_toArray, List.set_cons_zero, List.set_cons_succ, i64_w, i32_w]
      rfl
     refine done_ (by kernel_rfl) ?_
     go_wp2
     go_roundg (n - (i + 1))
     case measure => have := HINN.out; omega
     case rel => exact ⟨i + 1, A9, n9, c9, by first | rfl | (congr 1; omega), rfl, HINN.out, by omega, B9, V9, ⟨fun u hu => by
      have hij := HJ.out
      rcases Nat.lt_or_eq_of_le (show u + 1 ≤ i by omega) with h | h
      ·exact HE.out u h
      ·have : u = j := by omega
       rw [this, ← hij]; exact C5.out⟩⟩
    ·have C5 := Aside0.mk c5
     go_wp2
     have B_1 : Aside0 (Below wr.heap.size wr wr.drew) := ⟨below_drew B_0.out⟩
     clear B_0
     obtain ⟨j0, j1⟩ := kn_at2 (HC.out.below (below_step HB.out B_1.out)) j HJN.out
     obtain ⟨r0, r1⟩ := kn_at2 (HC.out.below (below_step HB.out B_1.out)) i HIN.out
     refine start_ (n := 16) (S := fun w' => w'.cell? ⟨(ad.add (j * 2)).block, (ad.add (j * 2)).off + 1, none⟩ = some (.int .u32 ((A.gk l j).2 : Int)) ∧ w'.cell? ⟨(ad.add (i * 2)).block, (ad.add (i * 2)).off + 1, none⟩ = some (.int .u32 ((A.gk l i).2 : Int))) (ds := []) #[ff_,ff_,ff_,ff_,ff_,ff_,ff_,ff_,ff_,ff_,ff_,ff_,ff_,ff_,ff_,ff_] (by kernel_rfl) rfl rfl ⟨j1, r1⟩ (fun hHeld => ?_)
     generalize wr.drew = w1 at *
     refine pure_ (i := 0) (N := some 12) (v := ?_) (a' := ?_) #[tt_,ff_,ff_,ff_,ff_,ff_,ff_,ff_,ff_,ff_,ff_,ff_,ff_,ff_,ff_,ff_] rfl rfl (by kernel_rfl) (fun _ _ _ h => h) (Or.inl ⟨by rfl, ?_⟩) ?_ ?_
     rotate_left
     ·intro w'
      go_simp
      with_reducible rfl
     rotate_left
     ·simp only [Act.put, List.setIfInBounds_toArray, List.set_cons_zero, List.set_cons_succ, i64_w, i32_w]
      rfl
     refine pure_ (i := 1) (N := some 13) (v := ?_) (a' := ?_) #[tt_,tt_,ff_,ff_,ff_,ff_,ff_,ff_,ff_,ff_,ff_,ff_,ff_,ff_,ff_,ff_] rfl rfl (by kernel_rfl) (fun _ _ _ h => h) (Or.inl ⟨by rfl, ?_⟩) ?_ ?_
     rotate_left
     ·intro w'
      go_simp
      with_reducible rfl
     rotate_left
     ·simp only [Act.put, List.setIfInBounds_toArray, List.set_cons_zero, List.set_cons_succ, i64_w, i32_w]
      rfl
     refine pure_ (i := 2) (N := some 14) (v := ?_) (a' := ?_) #[tt_,tt_,tt_,ff_,ff_,ff_,ff_,ff_,ff_,ff_,ff_,ff_,ff_,ff_,ff_,ff_] rfl rfl (by kernel_rfl) (fun _ _ _ h => h) (Or.inl ⟨by rfl, ?_⟩) ?_ ?_
     rotate_left
     ·intro w'
      go_simp
      with_reducible rfl
     rotate_left
     ·simp only [Act.put, List.setIfInBounds_toArray, List.set_cons_zero, List.set_cons_succ, i64_w, i32_w]
      rfl
     refine pure_ (i := 3) (N := some 15) (v := ?_) (a' := ?_) #[tt_,tt_,tt_,tt_,ff_,ff_,ff_,ff_,ff_,ff_,ff_,ff_,ff_,ff_,ff_,ff_] rfl rfl (by kernel_rfl) (fun _ _ _ h => h) (Or.inl ⟨by rfl, ?_⟩) ?_ ?_
     rotate_left
     ·intro w'
      go_simp
      with_reducible rfl
     rotate_left
     ·simp only [Act.put, List.setIfInBounds_toArray, List.set_cons_zero, List.set_cons_succ, i64_w, i32_w]
      rfl
     refine pure_ (i := 4) (N := some 16) (v := ?_) (a' := ?_) #[tt_,tt_,tt_,tt_,tt_,ff_,ff_,ff_,ff_,ff_,ff_,ff_,ff_,ff_,ff_,ff_] rfl rfl (by kernel_rfl) (fun _ _ _ h => h) (Or.inl ⟨by rfl, ?_⟩) ?_ ?_
     rotate_left
     ·intro w'
      go_simp
      with_reducible rfl
     rotate_left
     ·simp only [Act.put, List.setIfInBounds_toArray, List.set_cons_zero, List.set_cons_succ, i64_w, i32_w]
      rfl
     refine pure_ (i := 5) (N := some 17) (v := ?_) (a' := ?_) #[tt_,tt_,tt_,tt_,tt_,tt_,ff_,ff_,ff_,ff_,ff_,ff_,ff_,ff_,ff_,ff_] rfl rfl (by kernel_rfl) (fun _ _ _ h => h) (Or.inl ⟨by rfl, ?_⟩) ?_ ?_
     rotate_left
     ·intro w'
      go_simp
      with_reducible rfl
     rotate_left
     ·simp only [Act.put, List.setIfInBounds_toArray, List.set_cons_zero, List.set_cons_succ, i64_w, i32_w]
      rfl
     refine pure_ (i := 6) (N := some 18) (v := ?_) (a' := ?_) #[tt_,tt_,tt_,tt_,tt_,tt_,tt_,ff_,ff_,ff_,ff_,ff_,ff_,ff_,ff_,ff_] rfl rfl (by kernel_rfl) (fun _ _ _ h => h) (Or.inl ⟨by rfl, ?_⟩) ?_ ?_
     rotate_left
     ·intro w'
      go_simp
      with_reducible rfl
     rotate_left
     ·simp only [Act.put, List.setIfInBounds_toArray, List.set_cons_zero, List.set_cons_succ, i64_w, i32_w]
      rfl
     refine pure_ (i := 7) (N := some 19) (v := ?_) (a' := ?_) #[tt_,tt_,tt_,tt_,tt_,tt_,tt_,tt_,ff_,ff_,ff_,ff_,ff_,ff_,ff_,ff_] rfl rfl (by kernel_rfl) (fun _ _ _ h => h) (Or.inl ⟨by rfl, ?_⟩) ?_ ?_
     rotate_left
     ·intro w'
      go_simp
      with_reducible rfl
     rotate_left
     ·simp only [Act.put, List.setIfInBounds_toArray, List.set_cons_zero, List.set_cons_succ, i64_w, i32_w]
      rfl
     refine pure_ (i := 9) (N := some 21) (v := ?_) (a' := ?_) #[tt_,tt_,tt_,tt_,tt_,tt_,tt_,tt_,ff_,tt_,ff_,ff_,ff_,ff_,ff_,ff_] rfl rfl (by kernel_rfl) (fun _ _ _ h => h) (Or.inl ⟨by rfl, ?_⟩) ?_ ?_
     rotate_left
     ·intro w'
      go_simp
      with_reducible rfl
     rotate_left
     ·simp only [Act.put, List.setIfInBounds_toArray, List.set_cons_zero, List.set_cons_succ, i64_w, i32_w]
      rfl
     refine pure_ (i := 10) (N := some 22) (v := ?_) (a' := ?_) #[tt_,tt_,tt_,tt_,tt_,tt_,tt_,tt_,ff_,tt_,tt_,ff_,ff_,ff_,ff_,ff_] rfl rfl (by kernel_rfl) (fun _ _ _ h => h) (Or.inl ⟨by rfl, ?_⟩) ?_ ?_
     rotate_left
     ·intro w'
      go_simp
      with_reducible rfl
     rotate_left
     ·simp only [Act.put, List.setIfInBounds_toArray, List.set_cons_zero, List.set_cons_succ, i64_w, i32_w]
      rfl
     refine pure_ (i := 11) (N := some 23) (v := ?_) (a' := ?_) #[tt_,tt_,tt_,tt_,tt_,tt_,tt_,tt_,ff_,tt_,tt_,tt_,ff_,ff_,ff_,ff_] rfl rfl (by kernel_rfl) (fun _ _ _ h => h) (Or.inl ⟨by rfl, ?_⟩) ?_ ?_
     rotate_left
     ·intro w'
      go_simp
      with_reducible rfl
     rotate_left
     ·simp only [Act.put, List.setIfInBounds_toArray, List.set_cons_zero, List.set_cons_succ, i64_w, i32_w]
      rfl
     refine pure_ (i := 12) (N := some 24) (v := ?_) (a' := ?_) #[tt_,tt_,tt_,tt_,tt_,tt_,tt_,tt_,ff_,tt_,tt_,tt_,tt_,ff_,ff_,ff_] rfl rfl (by kernel_rfl) (fun _ _ _ h => h) (Or.inl ⟨by rfl, ?_⟩) ?_ ?_
     rotate_left
     ·intro w'
      go_simp
      with_reducible rfl
     rotate_left
     ·simp only [Act.put, List.setIfInBounds_toArray, List.set_cons_zero, List.set_cons_succ, i64_w, i32_w]
      rfl
     refine take_ (i := 8) (N := some 20) (v := ?_) (a' := ?_) #[tt_,tt_,tt_,tt_,tt_,tt_,tt_,tt_,tt_,tt_,tt_,tt_,tt_,ff_,ff_,ff_] rfl rfl (by kernel_rfl) (fun _ _ _ h => h) (Or.inl ⟨by rfl, ?_⟩) hHeld ?_ ?_
     rotate_left
     ·rintro w' ⟨s0, s1⟩
      go_simp
      with_reducible rfl
     rotate_left
     ·simp only [Act.put, List.setIfInBounds_toArray, List.set_cons_zero, List.set_cons_succ, i64_w, i32_w]
      rfl
     refine take_ (i := 13) (N := some 25) (v := ?_) (a' := ?_) #[tt_,tt_,tt_,tt_,tt_,tt_,tt_,tt_,tt_,tt_,tt_,tt_,tt_,tt_,ff_,ff_] rfl rfl (by kernel_rfl) (fun _ _ _ h => h) (Or.inl ⟨by rfl, ?_⟩) hHeld ?_ ?_
     rotate_left
     ·rintro w' ⟨s0, s1⟩
      go_simp
      with_reducible rfl
     rotate_left
     ·simp only [Act.put, List.setIfInBounds_toArray, List.set_cons_zero, List.set_cons_succ, i64_w, i32_w]
      rfl
     refine one_ (i := 14) (N := some 26) #[tt_,tt_,tt_,tt_,tt_,tt_,tt_,tt_,tt_,tt_,tt_,tt_,tt_,tt_,tt_,ff_] rfl rfl (by kernel_rfl) (by decide) (fun K hK => ?_)
     refine goes_ Try.func25 (by kernel_rfl) rfl #[.int .u32 ((A.gk l j).2 : Int), .int .u32 ((A.gk l i).2 : Int)] (by rfl) rfl rfl (by (try simp only [List.map_toArray, List.map_cons, List.map_nil]); rfl) ?_
     with_reducible refine (rSame_calls _ _ HGJ.out.2 HG.out.2 _).mono ?_
     rw [C5.out]
     rintro e w2 ⟨rfl, hd⟩
     have hb := hd.below
     clear hd
     refine ⟨_, rfl, ?_⟩
     have hj1 := pw_cell_below hb j1
     have hr1 := pw_cell_below hb r1
     clear j0 j1 r0 r1
     have B_2 := Aside0.mk (below_step B_1.out hb)
     clear hb
     refine hK.out _ _ ⟨hj1, hr1⟩ (fun hHeld => ?_)
     clear hK K
     refine norm_ (a' := ?_) ?_ ?_
     rotate_left
     ·show Act.put _ (some 26) _ = _
      simp only [Act.put, List.setIfInBounds_toArray, List.set_cons_zero, List.set_cons_succ, i64_w, i32_w]
      rfl
     refine pure_ (i := 15) (N := some 27) (v := ?_) (a' := ?_) #[tt_,tt_,tt_,tt_,tt_,tt_,tt_,tt_,tt_,tt_,tt_,tt_,tt_,tt_,tt_,tt_] rfl rfl (by kernel_rfl) (fun _ _ _ h => h) (Or.inl ⟨by rfl, ?_⟩) ?_ ?_
     rotate_left
     ·intro w'
      go_simp
      with_reducible rfl
     rotate_left
     ·simp only [Act.put, List.setIfInBounds_toArray, List.set_cons_zero, List.set_cons_succ, i64_w, i32_w]
      rfl
     refine done_ (by kernel_rfl) ?_
     clear hj1 hr1
     go_wp2
     go_ret2
     exact .inl ⟨flat_at l j (by have := HJ.out; have := HIN.out; omega) (by rw [← HJ.out]; exact C5.out), rfl, below_step HB.out B_2.out⟩
  ·obtain rfl : i = n := by omega
   have dd : decide ((i : Int) < (i : Int)) = false := decide_eq_false (by omega)
   have hVn := HV.out
   rw [List.take_of_length_le (by have := HL.out; omega)] at hVn
   have HVN : Aside0 (KR wr w.heap.size (.slice Av nv cv) (trn l)) := ⟨hVn⟩
   have HFL : Aside0 (flatB l = false) := ⟨flat_of l (fun j hj => HE.out j (by have := HL.out; omega))⟩
   clear hin h6 hVn
   go_wp2
   go_ret2
   exact .inr ⟨HFL.out, Av, nv, cv, rfl, HVN.out, HB.out⟩
end Go.Proofs.Ytkicfaboibfbpaa.A
end
section
set_option linter.unusedVariables false
set_option linter.unusedSimpArgs false
namespace Go.Proofs.Ytkicfaboibfbpaa.A
open Go.RowKit Go.Proofs.YtkicfaboibfbpaaW.PrintWords Go.Proofs.YtkicfaboibfbpaaW.PrintLast Go.Proofs.YtkicfaboibfbpaaW.PrintMore Go.Proofs.Ytkicfaboibfbpaa.PCurveAts
theorem KR.block {w : World} {base n c : Nat} {A : Option Addr} {l : List (Nat × Nat)} (h : KR w base (.slice A n c) l) (h0 : 0 < n) : ∃ r, A = some ⟨r, 0, none⟩ ∧ base ≤ r ∧ r < w.heap.size := by
 obtain ⟨inner, ho⟩ := Kd.R_own h
 rcases ho.2 with ⟨e, h1⟩ | ⟨r, cap, cur, e, h1, h2, _⟩
 ·injection e with _ e2 _
  omega
 ·injection e with e1 _ _
  exact ⟨r, e1, h1, blk_lt h2⟩
/-- a new curve: all its own -/
def NewC (w : World) (b g : Nat) (B : Option Addr) (cb : Nat) (l : List (Nat × Nat)) : Prop := b ≤ g ∧ CvB w g B cb l ∧ KR w b (.slice B l.length cb) l
theorem NewC.move {w w1 : World} {b g cb : Nat} {B : Option Addr} {l : List (Nat × Nat)} (h : NewC w b g B cb l) (hm : ∀ k, b ≤ k → k < w.heap.size → w1.heap[k]? = w.heap[k]?) : NewC w1 b g B cb l := by
 obtain ⟨h1, h2, h3⟩ := h
 have hR : KR w1 b (.slice B l.length cb) l := Kd.R_mono (Kd.R_move (Kd.R_bound h3) (fun k hk => hm k hk.2.1 hk.2.2.1)) (fun _ _ => trivial)
 exact ⟨h1, ⟨(hm g h1 (blk_lt h2.1)).trans h2.1, h2.2.1, hR.kn.2.2⟩, hR⟩
theorem NewC.below {w w1 : World} {b g cb : Nat} {B : Option Addr} {l : List (Nat × Nat)} (h : NewC w b g B cb l) (hb : Below w.heap.size w w1) : NewC w1 b g B cb l := ⟨h.1, h.2.1.below hb, h.2.2.below hb⟩
theorem New_ok {A : Option Addr} {c : Nat} {l : List (Nat × Nat)} (hl : kok l) (h64 : l.length < 1000) (hc : l.length ≤ c) (h0 : chk l = 0) (w : World) (hK : Kn w A l) : Calls Try.prog 31 #[.slice A l.length c] w fun e w' => ∃ g B cb, e = .returned (.tuple #[.pointer (some ⟨g, 0, none⟩), .int .i64 0]) ∧ NewC w' w.heap.size g B cb l ∧ Below w.heap.size w w' := by
 refine (New_calls A c l hl h64 hc w hK).mono ?_
 rintro e w' ⟨v, rfl, hb, h⟩
 obtain ⟨g, B, cb, rfl, hg, hC, hR⟩ := (h.resolve_left (fun h => h.1 h0)).2
 rw [h0]
 exact ⟨g, B, cb, rfl, ⟨hg, hC, hR⟩, hb⟩
theorem New_bad {A : Option Addr} {c : Nat} {l : List (Nat × Nat)} (hl : kok l) (h64 : l.length < 1000) (hc : l.length ≤ c) (h0 : chk l ≠ 0) (w : World) (hK : Kn w A l) : Calls Try.prog 31 #[.slice A l.length c] w fun e w' => e = .returned (.tuple #[.pointer none, .int .i64 ((chk l : Nat) : Int)]) ∧ Below w.heap.size w w' := by
 refine (New_calls A c l hl h64 hc w hK).mono ?_
 rintro e w' ⟨v, rfl, hb, h⟩
 obtain rfl := (h.resolve_right (fun h => h0 h.1)).2
 exact ⟨rfl, hb⟩
section
variable {P : Program} {ops : Array Oper} {Q : Exit → Act → World → Prop} {o : Oper} {rest : List Oper} {a : Act}
/-- a knot is stored into an own row -/
theorem put43 {w0 W : World} (base : Nat) (hN : o.dst = none) (hgd : o.guard = none) (p x : Operand) (ho : o.op = .store 43 p x) (ht : (P.info? 43).map (·.size) = some 2) {r n c o' : Nat} (i : Nat) (ll : List (Nat × Nat)) (u v : Nat)
    (haddr : a.eval p = .pointer (some ⟨r, o', none⟩)) (hoff : o' = i * 2) (hx : a.eval x = .agg #[.int .u32 (u : Int), .int .u32 (v : Int)]) (HO : KR W base (.slice (some ⟨r, 0, none⟩) n c) ll) (hi : i < n) (HB : Below base w0 W)
    (h : ∀ w1, KR w1 base (.slice (some ⟨r, 0, none⟩) n c) (ll.set i (u, v)) → Below base w0 w1 → W.grownBy w1 (some r) → wpList P ops Q rest a w1) : wpList P ops Q (o :: rest) a W := by
 obtain ⟨cc, h1, h2, h3, _⟩ := Kd.R_elem HO (kI (0, 0)) (i : Int) (by omega) (by omega)
 refine Kd.R_store k43 base hN hgd 43 p x ho 43 (i : Int) 0 (ll.map kI) (kI (u, v)) _ [.int .u32 (u : Int), .int .u32 (v : Int)] cc (fun _ => True) (fun _ => False) haddr (by rw [hoff]; rfl) hx rfl ht (by simp [Value.oneCell']) HO (by omega) (by omega) h1 h3 (Nat.le_refl _) ?_ (fun _ h => h.elim) HB ?_
 ·have e : cc.drop (0 + [Value.int .u32 (u : Int), .int .u32 (v : Int)].length) = [] := List.drop_eq_nil_of_le (by rw [h1]; exact Nat.le_refl _)
  rw [e, List.take_zero, List.nil_append, List.append_nil]
  exact k43_mkM W base (fun _ => False) (kI (u, v))
 ·intro w1 hR hB hg
  refine h w1 ?_ hB hg
  unfold KR
  rw [List.map_set]
  exact hR
end
set_option maxHeartbeats 8000000 in
theorem makes_ok (A : Option Addr) (c : Nat) (l : List (Nat × Nat)) (hl : kok l) (h64 : l.length < 1000) (hc : l.length ≤ c) (h0 : chk l = 0) (w : World) (hK : Kn w A l) :
    Calls Try.prog 11 #[.slice A l.length c] w fun e w' => ∃ g B cb, e = .returned (.tuple #[.pointer (some ⟨g, 0, none⟩), .bool true, .bool true]) ∧ NewC w' w.heap.size g B cb l ∧ Below w.heap.size w w' := by
 have HNEW : Aside0 (∀ A c w, Kn w A l → l.length ≤ c → Calls Try.prog 31 #[.slice A l.length c] w fun e w' => ∃ g B cb, e = .returned (.tuple #[.pointer (some ⟨g, 0, none⟩), .int .i64 0]) ∧ NewC w' w.heap.size g B cb l ∧ Below w.heap.size w w') := ⟨fun A c w h1 h2 => New_ok hl h64 h2 h0 w h1⟩
 have HSAME : Aside0 (∀ B d w, Kn w B l → l.length ≤ d → Kn w A l → Calls Try.prog 16 #[.slice B l.length d, .slice A l.length c] w fun e w' => e = .returned (.bool true) ∧ Drawn0 w w') := ⟨fun B d w h1 h2 h3 => by
  have := same_calls l l h64 h64 B A d c h2 hc w h1 h3
  rwa [decide_eq_true rfl] at this⟩
 obtain ⟨ek, hek⟩ : ∃ k, chk l = k := ⟨_, rfl⟩
 have HCHK : Aside0 (∀ w, Kn w A l → Calls Try.prog 30 #[.slice A l.length c] w fun e w' => e = .returned (.int .i64 (ek : Int)) ∧ Drawn0 w w') := ⟨fun w h => by rw [← hek]; exact rCheck_calls l hl h64 A c hc w h⟩
 rw [hek] at h0
 have HKW : Aside0 (∀ w', Below w.heap.size w w' → Kn w' A l) := ⟨fun w' hb => hK.below hb⟩
 have HK0 : Aside0 (k43.C w A l.length (l.map kI)) := ⟨hK⟩
 have KN2 : ∀ {W : World} {b n c : Nat} {B : Option Addr}, KR W b (.slice B n c) l → Kn W B l := fun h => h.kn.2.2
 have KC2 : ∀ {W : World} {b n c : Nat} {B : Option Addr}, KR W b (.slice B n c) l → l.length ≤ c := fun h => by have := h.kn; omega
 obtain ⟨n, hn⟩ : ∃ n, l.length = n := ⟨_, rfl⟩
 have HN := Aside0.mk hn
 rw [hn] at HNEW HSAME HCHK HK0 h64 ⊢
 have HK := HK0
 have HLE : Aside0 ((([] : List S43).length + n) * 8 ≤ 140737488355328) := ⟨by simp only [List.length_nil]; omega⟩
 have H6 := Aside0.mk h64
 subst h0
 have t1 : ((0 : Int) != ((0 : Nat) : Int)) = false := by decide
 have t2 : decide ((0 : Int) = ((0 : Nat) : Int)) = true := by decide
 clear hl h64 hc hK hn HK0 hek
 go_enter Try.func11, Try.ntmps11
 go_wp2_with (first | ((with_reducible refine gate_dst (N := 10) rfl ?_); refine Kd.R_append_rows k43 (W := w) (Rr := k43.K w) (w0 := w) w.heap.size rfl (.const (.slice none 0 0)) (.tmp 9) 23 43 (.agg #[.int .u32 0, .int .u32 0]) 8 rfl Try.underlying23 info43 rfl (by decide) (by decide) (.slice none 0 0) [] (l.map kI) A n c (fun _ => True) (fun _ => False) rfl rfl (KR.nil w _) HK.out (fun x cs h => k43_any _ _ _ _ _ _ h) (fun _ h => h.elim) (fun _ _ => trivial) (Below.refl _ _) (Nat.le_refl _) HLE.out ?_; intro v1 w1 hR hB hg hat; rw [List.nil_append] at hR; have R1 : Aside0 (KR w1 w.heap.size v1 l) := ⟨hR⟩; have B1 := Aside0.mk hB; obtain ⟨A1, n1, c1, rfl, hn1⟩ := R1.out.as; obtain rfl : n = n1 := (hn1.trans HN.out).symm; clear hR hB hg hat hn1) | (have R1K : Aside0 (Kn w1 A1 l) := ⟨KN2 R1.out⟩; have R1C : Aside0 (n ≤ c1) := ⟨by have := KC2 R1.out; have := HN.out; omega⟩; (go_at_call 31; (with_reducible refine (HNEW.out A1 c1 w1 R1K.out R1C.out).mono ?_); rintro e w2 ⟨g, B, cb, rfl, hC, hb⟩; have C2 := Aside0.mk hC; have B2 := Aside0.mk hb; have R2 : Aside0 (KR w2 w.heap.size (.slice A1 n c1) l) := ⟨R1.out.below hb⟩; clear hC hb)) | (go_at_call 16; (with_reducible refine (HSAME.out A1 c1 w2 (KN2 R2.out) (by have := KC2 R2.out; have := HN.out; omega) (HKW.out w2 (below_step B1.out B2.out))).mono ?_); rintro e w3 ⟨rfl, hd⟩; have B3 := Aside0.mk (below_step B2.out hd.below); have R3 : Aside0 (KR w3 w.heap.size (.slice A1 n c1) l) := ⟨R2.out.below hd.below⟩; have C3 : Aside0 (NewC w3 w1.heap.size g B cb l) := ⟨C2.out.below hd.below⟩; clear hd) | (go_at_call 30; (with_reducible refine (HCHK.out w3 (HKW.out w3 (below_step B1.out B3.out))).mono ?_); rintro e w4 ⟨rfl, hd⟩; have B4 := Aside0.mk (below_step B3.out hd.below); have R4 : Aside0 (KR w4 w.heap.size (.slice A1 n c1) l) := ⟨R3.out.below hd.below⟩; have C4 : Aside0 (NewC w4 w1.heap.size g B cb l) := ⟨C3.out.below hd.below⟩; clear hd))
 have HRB : Aside0 (∀ r, A1 = some ⟨r, 0, none⟩ → r < w1.heap.size) := ⟨fun r e => Kd.R_lt R1.out r (by rw [e]; rfl)⟩
 have S14 : Aside0 (w1.heap.size ≤ w4.heap.size) := ⟨B4.out.size⟩
 go_loopg [8] n (fun kx s8 wr => ∃ (i : Nat) (ll : List (Nat × Nat)), s8 = .int .i64 (i : Int) ∧ i ≤ n ∧ n - i ≤ kx ∧ Aside0 (KR wr w.heap.size (.slice A1 n c1) ll) ∧ Aside0 (Below w.heap.size w wr) ∧ Aside0 (w4.heap.size ≤ wr.heap.size ∧ ∀ k, w1.heap.size ≤ k → k < w4.heap.size → wr.heap[k]? = w4.heap[k]?))
 case atStart => exact ⟨0, l, rfl, Nat.zero_le _, by omega, R4, ⟨below_step B1.out B4.out⟩, ⟨Nat.le_refl _, fun _ _ _ => rfl⟩⟩
 case round =>
  obtain ⟨i, ll, rfl, i1, i2, HR, HB, HT⟩ := hrel
  have h6 := H6.out
  by_cases hin : i < n
  ·have HIN := Aside0.mk hin
   have e1i : decide ((0 : Int) ≤ (i : Int)) = true := decide_eq_true (by omega)
   have e2i : decide ((i : Int) < (n : Int)) = true := decide_eq_true (by omega)
   have e5i : ((0 : Int) ≤ (i : Int)) = True := eq_true (by omega)
   have e6i : ((i : Int) < (n : Int)) = True := eq_true (by omega)
   have e7i : (i < n) = True := eq_true (by omega)
   have wi : IntKind.i64.wrap ((i : Int) + 1) = ((i + 1 : Nat) : Int) := by rw [show IntKind.i64.wrap ((i : Int) + 1) = wrap64 ((i : Int) + 1) from i64_w _, w64 (by omega) (by omega)]; omega
   obtain ⟨r, rfl, hr1, hr2⟩ := HR.out.block (by omega)
   have HRR : Aside0 (r < w1.heap.size) := ⟨HRB.out r rfl⟩
   clear h6 hin hr1 hr2
   go_wp2_with ((with_reducible refine gate_store (p := 42) rfl ?_); refine put43 (w0 := w) w.heap.size rfl rfl (.tmp 42) (.tmp 41) rfl size43 i ll 1 1 rfl (by simp) rfl HR.out HIN.out HB.out ?_; intro w9 hR hB hg; have R9 := Aside0.mk hR; have B9 := Aside0.mk hB; have G9 := Aside0.mk hg; clear hR hB hg)
   go_roundg (n - (i + 1))
   case measure => have := HIN.out; omega
   case rel => exact ⟨i + 1, _, by first | rfl | (congr 1; omega), HIN.out, by omega, R9, B9, ⟨Nat.le_trans HT.out.1 G9.out.size, fun k h1 h2 => (G9.out.block k (by have := HT.out.1; omega) (fun e => by injection e with e; have := HRR.out; omega)).trans (HT.out.2 k h1 h2)⟩⟩
  ·obtain rfl : i = n := by omega
   have dd : decide ((i : Int) < (i : Int)) = false := decide_eq_false (by omega)
   clear h6 hin
   go_wp2
   go_ret3
   exact ⟨g, B, cb, rfl, (⟨Nat.le_trans B1.out.size ((C4.out.move HT.out.2).1), ((C4.out.move HT.out.2).2.1), Kd.R_lower (C4.out.move HT.out.2).2.2 B1.out.size⟩ : NewC _ _ _ _ _ _), HB.out⟩
set_option maxHeartbeats 8000000 in
theorem makes_bad (A : Option Addr) (c : Nat) (l : List (Nat × Nat)) (hl : kok l) (h64 : l.length < 1000) (hc : l.length ≤ c) (h0 : chk l ≠ 0) (w : World) (hK : Kn w A l) :
    Calls Try.prog 11 #[.slice A l.length c] w fun e w' => e = .returned (.tuple #[.pointer none, .bool false, .bool true]) ∧ Below w.heap.size w w' := by
 have HNEW : Aside0 (∀ A c w, Kn w A l → l.length ≤ c → Calls Try.prog 31 #[.slice A l.length c] w fun e w' => e = .returned (.tuple #[.pointer none, .int .i64 ((chk l : Nat) : Int)]) ∧ Below w.heap.size w w') := ⟨fun A c w h1 h2 => New_bad hl h64 h2 h0 w h1⟩
 have HSAME : Aside0 (∀ B d w, Kn w B l → l.length ≤ d → Kn w A l → Calls Try.prog 16 #[.slice B l.length d, .slice A l.length c] w fun e w' => e = .returned (.bool true) ∧ Drawn0 w w') := ⟨fun B d w h1 h2 h3 => by
  have := same_calls l l h64 h64 B A d c h2 hc w h1 h3
  rwa [decide_eq_true rfl] at this⟩
 obtain ⟨ek, hek⟩ : ∃ k, chk l = k := ⟨_, rfl⟩
 have HCHK : Aside0 (∀ w, Kn w A l → Calls Try.prog 30 #[.slice A l.length c] w fun e w' => e = .returned (.int .i64 (ek : Int)) ∧ Drawn0 w w') := ⟨fun w h => by rw [← hek]; exact rCheck_calls l hl h64 A c hc w h⟩
 rw [hek] at h0 HNEW
 have HKW : Aside0 (∀ w', Below w.heap.size w w' → Kn w' A l) := ⟨fun w' hb => hK.below hb⟩
 have HK0 : Aside0 (k43.C w A l.length (l.map kI)) := ⟨hK⟩
 have KN2 : ∀ {W : World} {b n c : Nat} {B : Option Addr}, KR W b (.slice B n c) l → Kn W B l := fun h => h.kn.2.2
 have KC2 : ∀ {W : World} {b n c : Nat} {B : Option Addr}, KR W b (.slice B n c) l → l.length ≤ c := fun h => by have := h.kn; omega
 obtain ⟨n, hn⟩ : ∃ n, l.length = n := ⟨_, rfl⟩
 have HN := Aside0.mk hn
 rw [hn] at HNEW HSAME HCHK HK0 h64 ⊢
 have HK := HK0
 have HLE : Aside0 ((([] : List S43).length + n) * 8 ≤ 140737488355328) := ⟨by simp only [List.length_nil]; omega⟩
 have H6 := Aside0.mk h64
 have t1 : ((ek : Int) != (ek : Int)) = false := by rw [bne_eq_false_iff_eq]
 have t2 : ((ek : Int) == 0) = false := by rw [beq_eq_false_iff_ne]; omega
 have t3 : decide ((ek : Int) = 0) = false := decide_eq_false (by omega)
 have t4 : (ek = 0) = False := eq_false h0
 clear hl h64 hc hK hn HK0 h0 hek
 go_enter Try.func11, Try.ntmps11
 go_wp2_with (first | ((with_reducible refine gate_dst (N := 10) rfl ?_); refine Kd.R_append_rows k43 (W := w) (Rr := k43.K w) (w0 := w) w.heap.size rfl (.const (.slice none 0 0)) (.tmp 9) 23 43 (.agg #[.int .u32 0, .int .u32 0]) 8 rfl Try.underlying23 info43 rfl (by decide) (by decide) (.slice none 0 0) [] (l.map kI) A n c (fun _ => True) (fun _ => False) rfl rfl (KR.nil w _) HK.out (fun x cs h => k43_any _ _ _ _ _ _ h) (fun _ h => h.elim) (fun _ _ => trivial) (Below.refl _ _) (Nat.le_refl _) HLE.out ?_; intro v1 w1 hR hB hg hat; rw [List.nil_append] at hR; have R1 : Aside0 (KR w1 w.heap.size v1 l) := ⟨hR⟩; have B1 := Aside0.mk hB; obtain ⟨A1, n1, c1, rfl, hn1⟩ := R1.out.as; obtain rfl : n = n1 := (hn1.trans HN.out).symm; clear hR hB hg hat hn1) | (have R1K : Aside0 (Kn w1 A1 l) := ⟨KN2 R1.out⟩; have R1C : Aside0 (n ≤ c1) := ⟨by have := KC2 R1.out; have := HN.out; omega⟩; (go_at_call 31; (with_reducible refine (HNEW.out A1 c1 w1 R1K.out R1C.out).mono ?_); rintro e w2 ⟨rfl, hb⟩; have B2 := Aside0.mk hb; have R2 : Aside0 (KR w2 w.heap.size (.slice A1 n c1) l) := ⟨R1.out.below hb⟩; clear hb)) | (go_at_call 16; (with_reducible refine (HSAME.out A1 c1 w2 (KN2 R2.out) (by have := KC2 R2.out; have := HN.out; omega) (HKW.out w2 (below_step B1.out B2.out))).mono ?_); rintro e w3 ⟨rfl, hd⟩; have B3 := Aside0.mk (below_step B2.out hd.below); have R3 : Aside0 (KR w3 w.heap.size (.slice A1 n c1) l) := ⟨R2.out.below hd.below⟩; clear hd) | (go_at_call 30; (with_reducible refine (HCHK.out w3 (HKW.out w3 (below_step B1.out B3.out))).mono ?_); rintro e w4 ⟨rfl, hd⟩; have B4 := Aside0.mk (below_step B3.out hd.below); have R4 : Aside0 (KR w4 w.heap.size (.slice A1 n c1) l) := ⟨R3.out.below hd.below⟩; clear hd))
 have HRB : Aside0 (∀ r, A1 = some ⟨r, 0, none⟩ → r < w1.heap.size) := ⟨fun r e => Kd.R_lt R1.out r (by rw [e]; rfl)⟩
 have S14 : Aside0 (w1.heap.size ≤ w4.heap.size) := ⟨B4.out.size⟩
 go_loopg [8] n (fun kx s8 wr => ∃ (i : Nat) (ll : List (Nat × Nat)), s8 = .int .i64 (i : Int) ∧ i ≤ n ∧ n - i ≤ kx ∧ Aside0 (KR wr w.heap.size (.slice A1 n c1) ll) ∧ Aside0 (Below w.heap.size w wr) ∧ Aside0 (w4.heap.size ≤ wr.heap.size ∧ ∀ k, w1.heap.size ≤ k → k < w4.heap.size → wr.heap[k]? = w4.heap[k]?))
 case atStart => exact ⟨0, l, rfl, Nat.zero_le _, by omega, R4, ⟨below_step B1.out B4.out⟩, ⟨Nat.le_refl _, fun _ _ _ => rfl⟩⟩
 case round =>
  obtain ⟨i, ll, rfl, i1, i2, HR, HB, HT⟩ := hrel
  have h6 := H6.out
  by_cases hin : i < n
  ·have HIN := Aside0.mk hin
   have e1i : decide ((0 : Int) ≤ (i : Int)) = true := decide_eq_true (by omega)
   have e2i : decide ((i : Int) < (n : Int)) = true := decide_eq_true (by omega)
   have e5i : ((0 : Int) ≤ (i : Int)) = True := eq_true (by omega)
   have e6i : ((i : Int) < (n : Int)) = True := eq_true (by omega)
   have e7i : (i < n) = True := eq_true (by omega)
   have wi : IntKind.i64.wrap ((i : Int) + 1) = ((i + 1 : Nat) : Int) := by rw [show IntKind.i64.wrap ((i : Int) + 1) = wrap64 ((i : Int) + 1) from i64_w _, w64 (by omega) (by omega)]; omega
   obtain ⟨r, rfl, hr1, hr2⟩ := HR.out.block (by omega)
   have HRR : Aside0 (r < w1.heap.size) := ⟨HRB.out r rfl⟩
   clear h6 hin hr1 hr2
   go_wp2_with ((with_reducible refine gate_store (p := 42) rfl ?_); refine put43 (w0 := w) w.heap.size rfl rfl (.tmp 42) (.tmp 41) rfl size43 i ll 1 1 rfl (by simp) rfl HR.out HIN.out HB.out ?_; intro w9 hR hB hg; have R9 := Aside0.mk hR; have B9 := Aside0.mk hB; have G9 := Aside0.mk hg; clear hR hB hg)
   go_roundg (n - (i + 1))
   case measure => have := HIN.out; omega
   case rel => exact ⟨i + 1, _, by first | rfl | (congr 1; omega), HIN.out, by omega, R9, B9, ⟨Nat.le_trans HT.out.1 G9.out.size, fun k h1 h2 => (G9.out.block k (by have := HT.out.1; omega) (fun e => by injection e with e; have := HRR.out; omega)).trans (HT.out.2 k h1 h2)⟩⟩
  ·obtain rfl : i = n := by omega
   have dd : decide ((i : Int) < (i : Int)) = false := decide_eq_false (by omega)
   clear h6 hin
   go_wp2
   go_ret3
   exact ⟨rfl, HB.out⟩
end Go.Proofs.Ytkicfaboibfbpaa.A
end
section
set_option linter.unusedVariables false
set_option linter.unusedSimpArgs false
namespace Go.Proofs.Ytkicfaboibfbpaa.A
open Go.RowKit Go.Proofs.YtkicfaboibfbpaaW.PrintWords Go.Proofs.YtkicfaboibfbpaaW.PrintLast Go.Proofs.YtkicfaboibfbpaaW.PrintMore Go.Proofs.Ytkicfaboibfbpaa.PCurveAts
theorem eqA32 (d : Nat) (w : World) (x0 y0 x1 y1 : Int) (x2 y2 : Bool) :
    (Op.equalIn (d + 2) 32 (.agg #[.int .u32 x0, .int .u32 x1, .bool x2]) (.agg #[.int .u32 y0, .int .u32 y1, .bool y2])).run Try.prog w = .ok (x0 == y0 && (x1 == y1 && (x2 == y2))) w := by
 refine eqA_of Try.underlying32 (by kernel_rfl) ?_
 refine eqf_cons (by rfl) (by go_simp; rfl) (by go_simp; rfl) (by go_simp) ?_
 refine eqf_cons (by rfl) (by go_simp; rfl) (by go_simp; rfl) (by go_simp) ?_
 exact eqf_last (by rfl) (by go_simp; rfl) (by go_simp; rfl) (by go_simp)
theorem pf_eq (p q : Pf) : ((p.X : Int) == (q.X : Int) && ((p.B : Int) == (q.B : Int) && (p.H == q.H))) = decide (p = q) := by
 obtain ⟨a, b, c⟩ := p
 obtain ⟨d, e, f⟩ := q
 rw [Bool.eq_iff_iff]
 simp only [Bool.and_eq_true, beq_iff_eq, decide_eq_true_iff, Pf.mk.injEq]
 constructor
 ·rintro ⟨h1, h2, h3⟩; exact ⟨by omega, by omega, h3⟩
 ·rintro ⟨h1, h2, h3⟩; exact ⟨by omega, by omega, h3⟩
theorem eql32 (p q : Pf) (w : World) : (binOp .eql 32 (.agg #[.int .u32 (p.X : Int), .int .u32 (p.B : Int), .bool p.H]) (.agg #[.int .u32 (q.X : Int), .int .u32 (q.B : Int), .bool q.H])).run Try.prog w = .ok (.bool (decide (p = q))) w := by
 rw [run_eql_struct, eqA32 9998, Result.andThen_ok, pf_eq]
/-- the chapter's curve -/
def mk : List (Nat × Nat) := [(0, 0), (1065353216, 1056964608), (1073741824, 1082130432)]
theorem mk0 : chk mk = 0 := by decide +kernel
theorem mk1 : atP mk 1056964608 = 1048576000 := by decide +kernel
theorem mk2 : atP mk 1069547520 = 1074790400 := by decide +kernel
theorem mk3 : atP mk 3212836864 = 0 := by decide +kernel
theorem mk4 : atP mk 2139095041 = 2143289344 := by decide +kernel
theorem mk5 : ckP (atP mk) 0 1073741824 1048576000 ⟨1056964608, 1056964607, true⟩ = true := by decide +kernel
theorem mk6 : noY (atP mk) 1073741824 1048576000 = false := by decide +kernel
theorem mk7 : noY (atP mk) 1073741824 1084227584 = true := by decide +kernel
theorem mk_ok : kok mk := by intro k hk; simp [mk] at hk; rcases hk with rfl | rfl | rfl <;> decide
theorem mkV : Val mk := chk_val mk_ok mk0
theorem mkL : lst (atP mk) (lo0 mk) (hi0 mk) 1048576000 = ⟨1056964608, 1056964607, true⟩ := by
 have e := ends_ok mkV
 have h := check_lst (ris_at mkV) e.1 e.2.1 e.2.2.1 e.2.2.2.1 e.2.2.2.2 (y := 1048576000) (by decide) ⟨1056964608, 1056964607, true⟩ (by decide)
 have h2 : ckP (atP mk) (lo0 mk) (hi0 mk) 1048576000 ⟨1056964608, 1056964607, true⟩ = true := mk5
 have h3 : noY (atP mk) (hi0 mk) 1048576000 = false := mk6
 rw [h2, h3, Bool.not_false, Bool.true_and] at h
 exact (of_decide_eq_true h.symm).symm
theorem mk_new {w : World} {g : Nat} (h : w.heap[g]? = some (.cells #[.int .u32 0, .int .u32 0, .int .u32 1065353216, .int .u32 1056964608, .int .u32 1073741824, .int .u32 1082130432] 43 (0, 0))) : Kn w (some ⟨g, 0, none⟩) mk := by
 refine ⟨rfl, by decide, fun _ => ⟨_, rfl, fun j p hj => ?_⟩⟩
 have c0 := (blk_cell h 0).trans rfl
 have c1 := (blk_cell h 1).trans rfl
 have c2 := (blk_cell h 2).trans rfl
 have c3 := (blk_cell h 3).trans rfl
 have c4 := (blk_cell h 4).trans rfl
 have c5 := (blk_cell h 5).trans rfl
 match j, hj with
 | 0, hj => obtain rfl := Option.some.inj hj; exact ⟨_, rfl, k43.K_of_M (k43_mkM w 0 (fun _ => True) _), fun i u hu => by
     match i, hu with
     | 0, hu => obtain rfl := Option.some.inj hu; exact c0
     | 1, hu => obtain rfl := Option.some.inj hu; exact c1⟩
 | 1, hj => obtain rfl := Option.some.inj hj; exact ⟨_, rfl, k43.K_of_M (k43_mkM w 0 (fun _ => True) _), fun i u hu => by
     match i, hu with
     | 0, hu => obtain rfl := Option.some.inj hu; exact c2
     | 1, hu => obtain rfl := Option.some.inj hu; exact c3⟩
 | 2, hj => obtain rfl := Option.some.inj hj; exact ⟨_, rfl, k43.K_of_M (k43_mkM w 0 (fun _ => True) _), fun i u hu => by
     match i, hu with
     | 0, hu => obtain rfl := Option.some.inj hu; exact c4
     | 1, hu => obtain rfl := Option.some.inj hu; exact c5⟩
set_option maxHeartbeats 2000000 in
theorem made_calls (w : World) : Calls Try.prog 36 #[] w fun e w' => ∃ g B cb, e = .returned (.pointer (some ⟨g, 0, none⟩)) ∧ CvB w' g B cb mk ∧ Below w.heap.size w w' := by
 have HN : Aside0 (∀ W A c, Kn W A mk → 3 ≤ c → Calls Try.prog 31 #[.slice A 3 c] W fun e w' => ∃ g B cb, e = .returned (.tuple #[.pointer (some ⟨g, 0, none⟩), .int .i64 0]) ∧ NewC w' W.heap.size g B cb mk ∧ Below W.heap.size W w') := ⟨fun W A c h hc => New_ok mk_ok (by decide) hc mk0 W h⟩
 have HK : Aside0 (Kn (w.alloc (.cells #[.int .u32 0, .int .u32 0, .int .u32 1065353216, .int .u32 1056964608, .int .u32 1073741824, .int .u32 1082130432] 43 (0, 0))) (some ⟨w.heap.size, 0, none⟩) mk) := ⟨mk_new (blk_new w _)⟩
 have HB : Aside0 (Below w.heap.size w (w.alloc (.cells #[.int .u32 0, .int .u32 0, .int .u32 1065353216, .int .u32 1056964608, .int .u32 1073741824, .int .u32 1082130432] 43 (0, 0)))) := ⟨below_alloc (Below.refl _ _) _⟩
 go_enter Try.func36, Try.ntmps36
 go_wp2_with ((go_at_call 31; (with_reducible refine (HN.out _ _ _ HK.out (Nat.le_refl _)).mono ?_); rintro e w1 ⟨g, B, cb, rfl, hC, hb⟩; have C1 := Aside0.mk hC; have B1 := Aside0.mk (below_step HB.out hb); clear hC hb))
 go_ret
 exact ⟨g, B, cb, rfl, C1.out.2.1, B1.out⟩
section
variable {ops : Array Oper} {Q : Exit → Act → World → Prop} {o : Oper} {rest : List Oper} {a : Act}
/-- a proof is loaded out of its box, guarded or not -/
theorem loadg32 {W : World} {p : Operand} (ho : o.op = .load 32 p) (hw : Region.wanted o (yielded ops a.tmps) = true) (g : Nat) (x y z : Value) (hp : a.eval p = .pointer (some ⟨g, 0, none⟩)) (hg : W.heap[g]? = some (.cells #[x, y, z] 32 (0, 0)))
    (h : wpList Try.prog ops Q rest (a.put o.dst (.agg #[x, y, z])) W) : wpList Try.prog ops Q (o :: rest) a W := by
 refine wpList_step fun K hK => ?_
 rw [if_pos hw]
 unfold Oper.wp
 rw [load32 ho hp hg]
 exact hK _ _ h
end
set_option maxHeartbeats 8000000 in
set_option maxRecDepth 100000 in
theorem known_calls (w : World) : Calls Try.prog 10 #[] w fun e w' => e = .returned (.bool true) ∧ Below w.heap.size w w' := by
 have HA0 : Aside0 (∀ W g B cb, CvB W g B cb mk → Calls Try.prog 17 #[.pointer (some ⟨g, 0, none⟩), .int .u32 1056964608] W fun e w' => e = .returned (.int .u32 1048576000) ∧ Below W.heap.size W w') := ⟨fun W g B cb h => by
  have := At_calls g B cb mk mkV 1056964608 (by decide) W h
  rw [mk1] at this
  exact this⟩
 have HA1 : Aside0 (∀ W g B cb, CvB W g B cb mk → Calls Try.prog 17 #[.pointer (some ⟨g, 0, none⟩), .int .u32 1069547520] W fun e w' => e = .returned (.int .u32 1074790400) ∧ Below W.heap.size W w') := ⟨fun W g B cb h => by
  have := At_calls g B cb mk mkV 1069547520 (by decide) W h
  rw [mk2] at this
  exact this⟩
 have HA2 : Aside0 (∀ W g B cb, CvB W g B cb mk → Calls Try.prog 17 #[.pointer (some ⟨g, 0, none⟩), .int .u32 3212836864] W fun e w' => e = .returned (.int .u32 0) ∧ Below W.heap.size W w') := ⟨fun W g B cb h => by
  have := At_calls g B cb mk mkV 3212836864 (by decide) W h
  rw [mk3] at this
  exact this⟩
 have HA3 : Aside0 (∀ W g B cb, CvB W g B cb mk → Calls Try.prog 17 #[.pointer (some ⟨g, 0, none⟩), .int .u32 2139095041] W fun e w' => e = .returned (.int .u32 2143289344) ∧ Below W.heap.size W w') := ⟨fun W g B cb h => by
  have := At_calls g B cb mk mkV 2139095041 (by decide) W h
  rw [mk4] at this
  exact this⟩
 have HL0 : Aside0 (∀ W g B cb, CvB W g B cb mk → Calls Try.prog 13 #[.pointer (some ⟨g, 0, none⟩), .int .u32 1048576000] W fun e w' => e = .returned (.tuple #[.agg #[.int .u32 1056964608, .int .u32 1056964607, .bool true], .int .i64 0]) ∧ Below W.heap.size W w') := ⟨fun W g B cb h => by
  have := Leastc_calls g B cb mk mkV W h 1048576000 (by decide)
  rw [mkL] at this
  have e : lerr (atP mk) (hi0 mk) 1048576000 = 0 := by unfold lerr; rw [show noY (atP mk) (hi0 mk) 1048576000 = false from mk6]; rfl
  rw [e] at this
  exact this⟩
 have HL1 : Aside0 (∀ W g B cb, CvB W g B cb mk → Calls Try.prog 13 #[.pointer (some ⟨g, 0, none⟩), .int .u32 1084227584] W fun e w' => e = .returned (.tuple #[.agg #[.int .u32 0, .int .u32 0, .bool false], .int .i64 43]) ∧ Below W.heap.size W w') := ⟨fun W g B cb h => by
  have := Leastc_calls g B cb mk mkV W h 1084227584 (by decide)
  have hn : noY (atP mk) (hi0 mk) 1084227584 = true := mk7
  rw [lst_no hn] at this
  have e : lerr (atP mk) (hi0 mk) 1084227584 = 43 := by unfold lerr; rw [hn]; rfl
  rw [e] at this
  exact this⟩
 have HC0 : Aside0 (∀ W g B cb, CvB W g B cb mk → Calls Try.prog 14 #[.pointer (some ⟨g, 0, none⟩), .int .u32 1048576000, .agg #[.int .u32 1056964608, .int .u32 1056964607, .bool true]] W fun e w' => e = .returned (.bool true) ∧ Below W.heap.size W w') := ⟨fun W g B cb h => by
  have := Checkc_calls g B cb mk mkV W h 1048576000 1056964608 1056964607 true (by decide) (by decide)
  rw [show ckP (atP mk) (lo0 mk) (hi0 mk) 1048576000 ⟨1056964608, 1056964607, true⟩ = true from mk5] at this
  exact this⟩
 have q1 : ∀ w : World, (binOp .eql 32 (.agg #[.int .u32 1056964608, .int .u32 1056964607, .bool true]) (.agg #[.int .u32 1056964608, .int .u32 1056964607, .bool true])).run Try.prog w = .ok (.bool true) w := fun w => eql32 ⟨1056964608, 1056964607, true⟩ ⟨1056964608, 1056964607, true⟩ w
 go_enter Try.func10, Try.ntmps10
 go_wp2_with (first | (go_at_call 36; (with_reducible refine (made_calls _).mono ?_); rintro e w1 ⟨g, B, cb, rfl, hC, hb⟩; have C_1 := Aside0.mk hC; have B_1 := Aside0.mk hb; clear hC hb) | (go_at_call 17; (with_reducible refine (HA0.out _ g B cb C_1.out).mono ?_); rintro e w2 ⟨rfl, hb⟩; have B_2 := Aside0.mk (below_step B_1.out hb); have C_2 := Aside0.mk (CvB.below C_1.out hb); clear C_1; clear hb) | (go_at_call 17; (with_reducible refine (HA1.out _ g B cb C_2.out).mono ?_); rintro e w3 ⟨rfl, hb⟩; have B_3 := Aside0.mk (below_step B_2.out hb); have C_3 := Aside0.mk (CvB.below C_2.out hb); clear C_2; clear hb) | (go_at_call 17; (with_reducible refine (HA2.out _ g B cb C_3.out).mono ?_); rintro e w4 ⟨rfl, hb⟩; have B_4 := Aside0.mk (below_step B_3.out hb); have C_4 := Aside0.mk (CvB.below C_3.out hb); clear C_3; clear hb) | (go_at_call 17; (with_reducible refine (HA3.out _ g B cb C_4.out).mono ?_); rintro e w5 ⟨rfl, hb⟩; have B_5 := Aside0.mk (below_step B_4.out hb); have C_5 := Aside0.mk (CvB.below C_4.out hb); clear C_4; clear hb) | (go_at_call 13; (with_reducible refine (HL0.out _ g B cb C_5.out).mono ?_); rintro e w6 ⟨rfl, hb⟩; have B_6 := Aside0.mk (below_step B_5.out hb); have C_6 := Aside0.mk (CvB.below C_5.out hb); clear C_5; clear hb) | ((with_reducible refine gate_dst (N := 2) rfl ?_); refine box_event ?hg (N := 2) ?hd (cs := #[.int .u32 0, .int .u32 0, .bool false]) (t := 32) ?hr ?_; (case hd => rfl); (case hg => rfl); (case hr => first | (go_simp; done) | (go_simp; rfl)); intro gp hg_ w7 hm_ hb_; have P_0 := Aside0.mk (C_6.out); have P_B := Aside0.mk (hb_); have P_G := Aside0.mk (show w6.heap.size ≤ gp by rw [hg_]; exact Nat.le_refl _); have GP := Aside0.mk (show w.heap.size ≤ gp by rw [hg_]; exact B_6.out.size); have B_7 := Aside0.mk (below_step B_6.out hb_); have C_7 := Aside0.mk (CvB.below C_6.out hb_); clear C_6; have P_7 := Aside0.mk (hm_); clear hm_ hb_ hg_) | ((with_reducible refine gate_store (p := 2) rfl ?_); refine store_event rfl rfl rfl gp #[.int .u32 1056964608, .int .u32 1056964607, .bool true] _ 32 rfl rfl P_7.out size32 rfl (by simp [Value.oneCell']) ?_; intro w8 hm_ hst_ hbl_; have B_8 := Aside0.mk (B_7.out.trans (hbl_ _ GP.out)); have P_8 := Aside0.mk (hm_); have C_8 := Aside0.mk (P_0.out.below ((P_B.out.trans (hbl_ _ P_G.out)))); clear P_7 C_7 hm_ hst_ hbl_) | (go_at_call 13; (with_reducible refine (HL1.out _ g B cb C_8.out).mono ?_); rintro e w9 ⟨rfl, hb⟩; have B_9 := Aside0.mk (below_step B_8.out hb); have P_9 := Aside0.mk (blk_below P_8.out hb); have C_9 := Aside0.mk (CvB.below C_8.out hb); clear P_8 C_8; clear hb) | ((with_reducible refine gate_dst (N := 4) rfl ?_); refine box_event ?hg (N := 4) ?hd (cs := #[.int .u32 0, .int .u32 0, .bool false]) (t := 32) ?hr ?_; (case hd => rfl); (case hg => rfl); (case hr => first | (go_simp; done) | (go_simp; rfl)); intro go_ hg_ w10 hm_ hb_; have O_0 := Aside0.mk (C_9.out); have O_B := Aside0.mk (hb_); have O_G := Aside0.mk (show w9.heap.size ≤ go_ by rw [hg_]; exact Nat.le_refl _); have NEPO := Aside0.mk (show gp ≠ go_ by rw [hg_]; have := blk_lt P_9.out; omega); have GO := Aside0.mk (show w.heap.size ≤ go_ by rw [hg_]; exact B_9.out.size); have B_10 := Aside0.mk (below_step B_9.out hb_); have P_10 := Aside0.mk (blk_below P_9.out hb_); have C_10 := Aside0.mk (CvB.below C_9.out hb_); clear P_9 C_9; have O_10 := Aside0.mk (hm_); clear hm_ hb_ hg_) | ((with_reducible refine gate_store (p := 4) rfl ?_); refine store_event rfl rfl rfl go_ #[.int .u32 0, .int .u32 0, .bool false] _ 32 rfl rfl O_10.out size32 rfl (by simp [Value.oneCell']) ?_; intro w11 hm_ hst_ hbl_; have B_11 := Aside0.mk (B_10.out.trans (hbl_ _ GO.out)); have P_11 := Aside0.mk ((hst_ gp NEPO.out).trans P_10.out); have O_11 := Aside0.mk (hm_); have C_11 := Aside0.mk (O_0.out.below ((O_B.out.trans (hbl_ _ O_G.out)))); clear P_10 O_10 C_10 hm_ hst_ hbl_) | ((with_reducible refine gate_dst (N := 42) rfl ?_); refine loadg32 rfl ?hw gp _ _ _ rfl P_11.out ?_; (case hw => rfl)) | ((with_reducible refine gate_dst (N := 48) rfl ?_); refine loadg32 rfl ?hw gp _ _ _ rfl P_11.out ?_; (case hw => rfl)) | (go_at_call 14; (with_reducible refine (HC0.out _ g B cb C_11.out).mono ?_); rintro e w12 ⟨rfl, hb⟩; have B_12 := Aside0.mk (below_step B_11.out hb); have P_12 := Aside0.mk (blk_below P_11.out hb); have O_12 := Aside0.mk (blk_below O_11.out hb); have C_12 := Aside0.mk (CvB.below C_11.out hb); clear P_11 O_11 C_11; clear hb))
 go_ret
 exact ⟨rfl, B_12.out⟩
end Go.Proofs.Ytkicfaboibfbpaa.A
end
section
set_option linter.unusedVariables false
set_option linter.unusedSimpArgs false
namespace Go.Proofs.Ytkicfaboibfbpaa.A
open Go.RowKit Go.Proofs.YtkicfaboibfbpaaW.PrintWords Go.Proofs.YtkicfaboibfbpaaW.PrintLast Go.Proofs.YtkicfaboibfbpaaW.PrintMore Go.Proofs.Ytkicfaboibfbpaa.PCurveAts
def nat (k : IntKind) : Kd Nat := Kd.scalar (fun x : Nat => Value.int k x) (fun _ => rfl)
/-- the element at a place (the walk's simp leaves it alone) -/
def gt (xs : List Nat) (i : Nat) : Nat := xs.getD i 0
set_option maxHeartbeats 1000000 in
set_option maxRecDepth 100000 in
theorem C_nat {k : IntKind} {w : World} {A : Option Addr} {n : Nat} {xs : List Nat} (h : (nat k).C w A n xs) (i : Nat) (hi : i < n) : ∃ ad, A = some ad ∧ w.cell? (ad.add i) = some (.int k (gt xs i)) := by
 obtain ⟨ad, c, hA, hl, hK, hc⟩ := Kd.C_get h 0 i (by omega) (by omega)
 refine ⟨ad, hA, ?_⟩
 have hK' : c = [.int k (gt xs i)] := hK
 have := hc 0 _ (by rw [hK']; rfl)
 simpa [nat, Kd.scalar] using this

theorem wf32 {a : Int} (h : (Lit.int .u32 a).wf = true) : ∃ n : Nat, a = n ∧ n < 4294967296 := by
 have : 0 ≤ a ∧ a < 4294967296 := by
  simp only [Lit.wf, Bool.and_eq_true, decide_eq_true_eq, show IntKind.u32.min = 0 from rfl, show IntKind.u32.max = 4294967295 from rfl] at h
  omega
 exact ⟨a.toNat, by omega, by omega⟩
theorem natRow {k : IntKind} {m : Nat} (hm0 : 0 < m) (hk : ∀ a, (Lit.int k a).wf = true → ∃ n : Nat, a = n ∧ n < m) {w : World} {a : Option Addr} {len cap : Nat} {zs : List Int} (h : (a = none ∧ len = 0 ∧ cap = 0 ∧ zs = []) ∨ ∃ x, a = some x ∧ len ≤ cap ∧ cap ≤ maxLen ∧ zs.length = cap ∧ (∀ i, i < zs.length → w.cell? (x.add i) = some (.int k (zs.getD i 0))) ∧ ∀ n ∈ zs, (Lit.int k n).wf = true) :
    ∃ xs : List Nat, len = xs.length ∧ (nat k).C w a xs.length xs ∧ xs.length ≤ cap ∧ ∀ i, gt xs i < m := by
 obtain ⟨l, rfl, hr, hm, hw, hc⟩ := ReadsInt.ofRowC h
 refine ⟨l.map Int.toNat, by simp, ?_, by simpa using hc, ?_⟩
 ·refine Kd.C_of_reads (d := 0) ⟨rfl, by simpa using hr.2.1, fun hp => ?_⟩
  obtain ⟨ad, e, hx⟩ := hr.2.2 (by simpa using hp)
  refine ⟨ad, e, fun j hj => ?_⟩
  have hj' : j < l.length := by simpa using hj
  obtain ⟨n, hn, _⟩ := hk (l.getD j 0) (hw _ (by rw [List.getD_eq_getElem?_getD, List.getElem?_eq_getElem hj']; exact List.getElem_mem hj'))
  rw [hx j hj', hn]
  rw [List.getD_eq_getElem?_getD, List.getElem?_eq_getElem hj'] at hn
  simp only [Option.getD_some] at hn
  simp [List.getElem?_eq_getElem hj', hn]
 ·intro i
  unfold gt
  rw [List.getD_eq_getElem?_getD, List.getElem?_map]
  by_cases hi : i < l.length
  ·obtain ⟨n, hn, hlt⟩ := hk l[i] (hw _ (List.getElem_mem hi))
   rw [List.getElem?_eq_getElem hi, hn]
   simpa using hlt
  ·rw [List.getElem?_eq_none (by omega)]; exact hm0
/-- a list of words in memory -/
def Ws (w : World) (A : Option Addr) (xs : List Nat) : Prop := (nat .u32).C w A xs.length xs
theorem Ws.below {w w' : World} {A : Option Addr} {xs : List Nat} (h : Ws w A xs) (hb : Below w.heap.size w w') : Ws w' A xs := Kd.C_below h hb
theorem Ws.at_ {w : World} {A : Option Addr} {xs : List Nat} (h : Ws w A xs) (i : Nat) (hi : i < xs.length) : ∃ ad, A = some ad ∧ w.cell? (ad.add i) = some (.int .u32 ((gt xs i : Nat) : Int)) := C_nat h i hi
theorem same_t (l : List (Nat × Nat)) (h64 : l.length < 1000) {A B : Option Addr} {c d : Nat} (hc : l.length ≤ c) (hd : l.length ≤ d) (w : World) (hA : Kn w A l) (hB : Kn w B l) :
    Calls Try.prog 16 #[.slice A l.length c, .slice B l.length d] w fun e w' => e = .returned (.bool true) ∧ Drawn0 w w' := by
 have := same_calls l l h64 h64 A B c d hc hd w hA hB
 rwa [decide_eq_true rfl] at this
end Go.Proofs.Ytkicfaboibfbpaa.A
end
section
set_option linter.unusedVariables false
set_option linter.unusedSectionVars false
namespace Go.Proofs.Ytkicfaboibfbpaa.A
theorem lt_irr (a : Nat) : lt a a = false := by
 unfold lt
 rw [decide_eq_false (by omega), Bool.and_false]
theorem eqv_self {a : Nat} (h : isnan a = false) : eqv a a = true := by rw [nn_eq h h]; exact decide_eq_true rfl
theorem trn_trn (l : List (Nat × Nat)) : trn (trn l) = l := by
 unfold trn
 rw [List.map_map]
 have : ((fun k : Nat × Nat => (k.2, k.1)) ∘ fun k => (k.2, k.1)) = id := by funext k; rfl
 rw [this, List.map_id]
/-- at a knot -/
theorem at_knot {l : List (Nat × Nat)} (hv : Val l) {i : Nat} (hi : i < l.length) : atP l (gk l i).1 = (gk l i).2 := by
 have two := hv.two
 have n0 := (hv.nx hi).1
 by_cases h0 : i = 0
 ·subst h0
  exact at_low hv n0 (lt_irr _)
 ·have c1 : lt (gk l 0).1 (gk l i).1 = true := hv.mono (by omega) hi
  by_cases hn : i = l.length - 1
  ·have := at_high hv n0 c1 (by rw [← hn]; exact lt_irr _)
   rw [this, ← hn]
  ·have c2 : lt (gk l i).1 (gk l (l.length - 1)).1 = true := hv.mono (by omega) (by omega)
   have f : fidx l (gk l i).1 = i := fidx_eq l _ i (fun j hj => hv.mono hj hi) (lt_irr _) hi
   unfold atP atS
   rw [n0, if_neg (by decide), c1, if_neg (by decide), c2, if_neg (by decide), f, eqv_self n0, if_pos rfl]
theorem trn_val {l : List (Nat × Nat)} (hv : Val l) (hf : flatB l = false) : Val (trn l) := by
 refine ⟨?_, by rw [trn_len]; exact hv.two, by rw [trn_len]; exact hv.most, fun i hi => ?_, fun i hi => ?_⟩
 ·intro k hk
  unfold trn at hk
  obtain ⟨j, hj, rfl⟩ := List.mem_map.mp hk
  exact ⟨(hv.ok j hj).2, (hv.ok j hj).1⟩
 ·rw [trn_len] at hi
  rw [trn_gk]
  exact ⟨(hv.fin i hi).2, (hv.fin i hi).1⟩
 ·rw [trn_len] at hi
  rw [trn_gk, trn_gk]
  have h := hv.ris i hi
  have h2 := flat_all l hf i hi
  have a := (hv.nx (show i < l.length by omega)).2
  have b := (hv.nx hi).2
  refine ⟨?_, lt_asymm h.1⟩
  have h3 := h.2
  rw [nn_lt b a] at h3
  rw [nn_eq a b] at h2
  rw [nn_lt a b]
  simp only [decide_eq_false_iff_not, decide_eq_true_eq] at *
  omega
theorem trn_flat {l : List (Nat × Nat)} (hv : Val l) : flatB (trn l) = false := by
 refine flat_of _ (fun j hj => ?_)
 rw [trn_len] at hj
 rw [trn_gk, trn_gk]
 show eqv (gk l j).1 (gk l (j + 1)).1 = false
 have h := lt_pz (hv.ris j hj).1
 rw [nn_eq h.1 h.2.1]
 exact decide_eq_false (by omega)
/-- turned round, a sample stays between its knots -/
theorem turned_law {l : List (Nat × Nat)} (hv : Val l) (hf : flatB l = false) {x i : Nat} (hx : x < 4294967296) (hi : i + 1 < l.length) (c0 : isnan x = false) (c1 : lt x (gk l i).1 = false) (c2 : lt (gk l (i + 1)).1 x = false) :
    lt (atP (trn l) (atP l x)) (gk l i).1 = false ∧ lt (gk l (i + 1)).1 (atP (trn l) (atP l x)) = false := by
 have ht := trn_val hv hf
 have n0 := hv.nx (show i < l.length by omega)
 have n1 := hv.nx hi
 have k0 := gk_ok hv.ok i
 have k1 := gk_ok hv.ok (i + 1)
 have hA := at_law hv hx c0
 have hT := at_law ht hA.2.1 hA.1
 rw [nn_lt c0 n0.1] at c1
 rw [nn_lt n1.1 c0] at c2
 simp only [decide_eq_false_iff_not] at c1 c2
 have m1 := at_mono hv k0.1 hx n0.1 c0 (by omega)
 have m2 := at_mono hv hx k1.1 c0 n1.1 (by omega)
 rw [at_knot hv (by omega)] at m1
 rw [at_knot hv hi] at m2
 have t1 := at_mono ht k0.2 hA.2.1 n0.2 hA.1 m1
 have t2 := at_mono ht hA.2.1 k1.2 hA.1 n1.2 m2
 have e0 : atP (trn l) (gk l i).2 = (gk l i).1 := by
  have := at_knot ht (i := i) (by rw [trn_len]; omega)
  rw [trn_gk] at this
  exact this
 have e1 : atP (trn l) (gk l (i + 1)).2 = (gk l (i + 1)).1 := by
  have := at_knot ht (i := i + 1) (by rw [trn_len]; omega)
  rw [trn_gk] at this
  exact this
 rw [e0] at t1
 rw [e1] at t2
 rw [nn_lt hT.1 n0.1, nn_lt n1.1 hT.1]
 exact ⟨decide_eq_false (by omega), decide_eq_false (by omega)⟩
theorem knot_back {l : List (Nat × Nat)} (hv : Val l) (hf : flatB l = false) {i : Nat} (hi : i < l.length) : atP (trn l) (gk l i).2 = (gk l i).1 := by
 have := at_knot (trn_val hv hf) (i := i) (by rw [trn_len]; exact hi)
 rw [trn_gk] at this
 exact this
end Go.Proofs.Ytkicfaboibfbpaa.A
end
section
set_option linter.unusedVariables false
set_option linter.unusedSimpArgs false
namespace Go.Proofs.Ytkicfaboibfbpaa.A
open Go.RowKit Go.Proofs.YtkicfaboibfbpaaW.PrintWords Go.Proofs.YtkicfaboibfbpaaW.PrintLast Go.Proofs.YtkicfaboibfbpaaW.PrintMore Go.Proofs.Ytkicfaboibfbpaa.PCurveAts
theorem Turn_flat (g : Nat) (A : Option Addr) (c : Nat) (l : List (Nat × Nat)) (hv : Val l) (hf : flatB l = true) (w : World) (hC : CvB w g A c l) :
    Calls Try.prog 24 #[.pointer (some ⟨g, 0, none⟩)] w fun e w' => e = .returned (.tuple #[.pointer none, .int .i64 44]) ∧ Below w.heap.size w w' := by
 refine (Turn_calls g A c l hv w hC).mono ?_
 rintro e w' (⟨_, h⟩ | ⟨h, _⟩)
 ·exact h
 ·rw [hf] at h; cases h
theorem Turn_ok (g : Nat) (A : Option Addr) (c : Nat) (l : List (Nat × Nat)) (hv : Val l) (hf : flatB l = false) (w : World) (hC : CvB w g A c l) :
    Calls Try.prog 24 #[.pointer (some ⟨g, 0, none⟩)] w fun e w' => ∃ g2 B c2, e = .returned (.tuple #[.pointer (some ⟨g2, 0, none⟩), .int .i64 0]) ∧ CvB w' g2 B c2 (trn l) ∧ Below w.heap.size w w' := by
 refine (Turn_calls g A c l hv w hC).mono ?_
 rintro e w' (⟨h, _⟩ | ⟨_, h⟩)
 ·rw [hf] at h; cases h
 ·exact h
theorem rTurn_flat (A : Option Addr) (c : Nat) (l : List (Nat × Nat)) (hv : Val l) (hf : flatB l = true) (w : World) (hc : l.length ≤ c) (hK : Kn w A l) :
    Calls Try.prog 23 #[.slice A l.length c] w fun e w' => e = .returned (.tuple #[.slice none 0 0, .int .i64 44]) ∧ Below w.heap.size w w' := by
 refine (rTurn_calls A c l hv w hc hK).mono ?_
 rintro e w' (⟨_, h⟩ | ⟨h, _⟩)
 ·exact h
 ·rw [hf] at h; cases h
theorem rTurn_ok (A : Option Addr) (c : Nat) (l : List (Nat × Nat)) (hv : Val l) (hf : flatB l = false) (w : World) (hc : l.length ≤ c) (hK : Kn w A l) :
    Calls Try.prog 23 #[.slice A l.length c] w fun e w' => ∃ B c2, e = .returned (.tuple #[.slice B l.length c2, .int .i64 0]) ∧ l.length ≤ c2 ∧ Kn w' B (trn l) ∧ Below w.heap.size w w' := by
 refine (rTurn_calls A c l hv w hc hK).mono ?_
 rintro e w' (⟨h, _⟩ | ⟨_, B, n2, c2, rfl, hR, hb⟩)
 ·rw [hf] at h; cases h
 ·obtain ⟨k1, k2, k3⟩ := hR.kn
  rw [trn_len] at k1
  rw [k1] at k2
  exact ⟨B, c2, by rw [k1], k2, k3, hb⟩
/-- a list's cells are those of its length -/
theorem KnotsT {l : List (Nat × Nat)} (hv : Val l) {n : Nat} (hn : l.length = n) (w : World) (g : Nat) (A : Option Addr) (c : Nat) (hC : CvB w g A c l) :
    Calls Try.prog 15 #[.pointer (some ⟨g, 0, none⟩)] w fun e w' => ∃ B cb, e = .returned (.slice B n cb) ∧ n ≤ cb ∧ Kn w' B l ∧ Below w.heap.size w w' := by
 refine (Knots_calls g A c l hv w hC).mono ?_
 rintro e w' ⟨B, cb, rfl, h1, h2⟩
 rw [hn] at h2 ⊢
 have h3 := h2.kn
 exact ⟨B, cb, rfl, h3.2.1, h3.2.2, h1⟩
theorem sameT {l : List (Nat × Nat)} (h64 : l.length < 1000) {n : Nat} (hn : l.length = n) {A B : Option Addr} {c d : Nat} (hc : n ≤ c) (hd : n ≤ d) (w : World) (hA : Kn w A l) (hB : Kn w B l) :
    Calls Try.prog 16 #[.slice A n c, .slice B n d] w fun e w' => e = .returned (.bool true) ∧ Below w.heap.size w w' := by
 subst hn
 refine (same_t l h64 hc hd w hA hB).mono ?_
 rintro e w' ⟨h, hd⟩
 exact ⟨h, hd.below⟩
set_option maxHeartbeats 8000000 in
theorem turned_calls (A1 : Option Addr) (c1 : Nat) (l : List (Nat × Nat)) (hv : Val l) (hf : flatB l = false) (gt_ gc : Nat) (Bt Bc : Option Addr) (ct cc x : Nat) (hx : x < 4294967296) (w : World) (hK : Kn w A1 l) (hT : CvB w gt_ Bt ct (trn l)) (hC : CvB w gc Bc cc l) :
    Calls Try.prog 26 #[.slice A1 l.length c1, .pointer (some ⟨gt_, 0, none⟩), .pointer (some ⟨gc, 0, none⟩), .int .u32 (x : Int)] w fun e w' => e = .returned (.bool true) ∧ Below w.heap.size w w' := by
 have two := hv.two
 have h64 := hv.most
 obtain ⟨ad, rfl, _⟩ := kn_at hK 0 (by omega)
 obtain ⟨n, hn⟩ : ∃ n, l.length = n := ⟨_, rfl⟩
 rw [hn]
 have HK : Aside0 (∀ W, Below w.heap.size w W → Kn W (some ad) l) := ⟨fun W hb => hK.below hb⟩
 have HAC : Aside0 (∀ W, Below w.heap.size w W → Calls Try.prog 17 #[.pointer (some ⟨gc, 0, none⟩), .int .u32 (x : Int)] W fun e w' => e = .returned (.int .u32 ((atP l x : Nat) : Int)) ∧ Below W.heap.size W w') := ⟨fun W hb => At_calls gc Bc cc l hv x hx W (hC.below hb)⟩
 have HAT : Aside0 (∀ W (y : Nat), y < 4294967296 → Below w.heap.size w W → Calls Try.prog 17 #[.pointer (some ⟨gt_, 0, none⟩), .int .u32 (y : Int)] W fun e w' => e = .returned (.int .u32 ((atP (trn l) y : Nat) : Int)) ∧ Below W.heap.size W w') := ⟨fun W y hy hb => At_calls gt_ Bt ct (trn l) (trn_val hv hf) y hy W (hT.below hb)⟩
 obtain ⟨u, hu⟩ : ∃ u, atP l x = u := ⟨_, rfl⟩
 obtain ⟨y, hy⟩ : ∃ y, atP (trn l) u = y := ⟨_, rfl⟩
 rw [hu] at HAC
 have HU : Aside0 (u < 4294967296) := ⟨by rw [← hu]; exact at_lt hv hx⟩
 have HY : Aside0 (y < 4294967296) := ⟨by rw [← hy]; exact at_lt (trn_val hv hf) HU.out⟩
 have HLAW : Aside0 (∀ j, j + 1 < n → isnan x = false → lt x (A.gk l j).1 = false → lt (A.gk l (j + 1)).1 x = false → lt y (A.gk l j).1 = false ∧ lt (A.gk l (j + 1)).1 y = false) := ⟨fun j hj c0 c1 c2 => by rw [← hy, ← hu]; exact turned_law hv hf hx (by omega) c0 c1 c2⟩
 have HYE : Aside0 (atP (trn l) u = y) := ⟨hy⟩
 have HXW := Aside0.mk hx
 have HVV : Aside0 (Val l) := ⟨hv⟩
 have HL := Aside0.mk hn
 have H6 : Aside0 (2 ≤ n ∧ n ≤ 64) := ⟨by omega⟩
 clear hv hf hK hT hC hx two h64 hn hu hy
 go_enter Try.func26, Try.ntmps26
 go_wp2
 go_loopg [9] n (fun kx s9 wr => ∃ j : Nat, s9 = .int .i64 ((j + 1 : Nat) : Int) ∧ j + 1 ≤ n ∧ n - j ≤ kx ∧ Aside0 (Below w.heap.size w wr))
 case atStart => exact ⟨0, rfl, by have := H6.out; omega, by omega, ⟨Below.refl _ _⟩⟩
 case round =>
  obtain ⟨j, rfl, i1, i2, HB⟩ := hrel
  obtain ⟨i, hi⟩ : ∃ i, i = j + 1 := ⟨_, rfl⟩
  rw [← hi]
  have HJ := Aside0.mk hi
  have h6 := H6.out
  by_cases hin : i < n
  ·have HIN := Aside0.mk hin
   have HLI : Aside0 (i < l.length) := ⟨by have := HL.out; omega⟩
   have HLJ : Aside0 (j < l.length) := ⟨by have := HL.out; omega⟩
   have e1i : decide ((0 : Int) ≤ (i : Int)) = true := decide_eq_true (by omega)
   have e2i : decide ((i : Int) < (n : Int)) = true := decide_eq_true (by omega)
   have e5i : ((0 : Int) ≤ (i : Int)) = True := eq_true (by omega)
   have e6i : ((i : Int) < (n : Int)) = True := eq_true (by omega)
   have e7i : (i < n) = True := eq_true (by omega)
   have wi : IntKind.i64.wrap ((i : Int) + 1) = ((i + 1 : Nat) : Int) := by rw [show IntKind.i64.wrap ((i : Int) + 1) = wrap64 ((i : Int) + 1) from i64_w _, w64 (by omega) (by omega)]; omega
   have e1j : decide ((0 : Int) ≤ (j : Int)) = true := decide_eq_true (by omega)
   have e2j : decide ((j : Int) < (n : Int)) = true := decide_eq_true (by omega)
   have e5j : ((0 : Int) ≤ (j : Int)) = True := eq_true (by omega)
   have e6j : ((j : Int) < (n : Int)) = True := eq_true (by omega)
   have e7j : (j < n) = True := eq_true (by omega)
   have wj : IntKind.i64.wrap ((i : Int) - 1) = (j : Int) := by rw [show IntKind.i64.wrap ((i : Int) - 1) = wrap64 ((i : Int) - 1) from i64_w _, w64 (by omega) (by omega)]; omega
   obtain ⟨r0, r1⟩ := kn_at2 (HK.out wr HB.out) i HLI.out
   obtain ⟨q0, q1⟩ := kn_at2 (HK.out wr HB.out) j HLJ.out
   have HGI := Aside0.mk (gk_ok HVV.out.ok i).1
   have HGJ := Aside0.mk (gk_ok HVV.out.ok j).1
   clear hin h6 hi i1
   have done : True := trivial
   cases c0 : isnan x
   case true =>
    go_wp2_with (first | (go_at_call 37; (with_reducible refine (rNaN_calls x HXW.out _).mono ?_); rw [c0]; rintro e _ ⟨rfl, nd, rfl⟩))
    go_roundg (n - (j + 1))
    case measure => have := HIN.out; have := HJ.out; omega
    case rel => exact ⟨j + 1, by have := HJ.out; first | (congr 1; omega) | rfl, by have := HIN.out; have := HJ.out; omega, by omega, ⟨by repeat (first | exact HB.out | apply pw_below_drewN)⟩⟩
   cases c1 : lt x (A.gk l j).1
   case true =>
    go_wp2_with (first | (go_at_call 37; (with_reducible refine (rNaN_calls x HXW.out _).mono ?_); rw [c0]; rintro e _ ⟨rfl, nd, rfl⟩) | (go_at_call 38; (with_reducible refine (rBelow_calls x (A.gk l j).1 HXW.out HGJ.out _).mono ?_); rw [c1]; rintro e _ ⟨rfl, nd, rfl⟩))
    go_roundg (n - (j + 1))
    case measure => have := HIN.out; have := HJ.out; omega
    case rel => exact ⟨j + 1, by have := HJ.out; first | (congr 1; omega) | rfl, by have := HIN.out; have := HJ.out; omega, by omega, ⟨by repeat (first | exact HB.out | apply pw_below_drewN)⟩⟩
   cases c2 : lt (A.gk l i).1 x
   case true =>
    go_wp2_with (first | (go_at_call 37; (with_reducible refine (rNaN_calls x HXW.out _).mono ?_); rw [c0]; rintro e _ ⟨rfl, nd, rfl⟩) | (go_at_call 38; (with_reducible refine (rBelow_calls x (A.gk l j).1 HXW.out HGJ.out _).mono ?_); rw [c1]; rintro e _ ⟨rfl, nd, rfl⟩) | (go_at_call 38; (with_reducible refine (rBelow_calls (A.gk l i).1 x HGI.out HXW.out _).mono ?_); rw [c2]; rintro e _ ⟨rfl, nd, rfl⟩))
    go_roundg (n - (j + 1))
    case measure => have := HIN.out; have := HJ.out; omega
    case rel => exact ⟨j + 1, by have := HJ.out; first | (congr 1; omega) | rfl, by have := HIN.out; have := HJ.out; omega, by omega, ⟨by repeat (first | exact HB.out | apply pw_below_drewN)⟩⟩
   obtain ⟨c3, c4⟩ := HLAW.out j (by have := HIN.out; have := HJ.out; omega) c0 c1 (by rw [← HJ.out]; exact c2)
   rw [← HJ.out] at c4
   clear done
   go_wp2_with (first | (go_at_call 37; (with_reducible refine (rNaN_calls x HXW.out _).mono ?_); rw [c0]; rintro e _ ⟨rfl, nd, rfl⟩) | (go_at_call 38; (with_reducible refine (rBelow_calls x (A.gk l j).1 HXW.out HGJ.out _).mono ?_); rw [c1]; rintro e _ ⟨rfl, nd, rfl⟩) | (go_at_call 38; (with_reducible refine (rBelow_calls (A.gk l i).1 x HGI.out HXW.out _).mono ?_); rw [c2]; rintro e _ ⟨rfl, nd, rfl⟩) | (go_at_call 17; first | ((with_reducible refine (HAC.out _ (by repeat (first | exact HB.out | apply pw_below_drewN))).mono ?_); rintro e w5 ⟨rfl, hb⟩; have B5 : Aside0 (Below w.heap.size w w5) := ⟨below_step (by repeat (first | exact HB.out | apply pw_below_drewN)) hb⟩; clear hb r0 r1 q0 q1) | ((with_reducible refine (HAT.out _ u HU.out B5.out).mono ?_); rw [HYE.out]; rintro e w6 ⟨rfl, hb⟩; have B6 : Aside0 (Below w.heap.size w w6) := ⟨below_step B5.out hb⟩; obtain ⟨r0, r1⟩ := kn_at2 (HK.out w6 B6.out) i HLI.out; obtain ⟨q0, q1⟩ := kn_at2 (HK.out w6 B6.out) j HLJ.out; clear hb)) | (go_at_call 38; (with_reducible refine (rBelow_calls y (A.gk l j).1 HY.out HGJ.out _).mono ?_); rw [c3]; rintro e _ ⟨rfl, nd, rfl⟩) | (go_at_call 38; (with_reducible refine (rBelow_calls (A.gk l i).1 y HGI.out HY.out _).mono ?_); rw [c4]; rintro e _ ⟨rfl, nd, rfl⟩))
   go_roundg (n - (j + 1))
   case measure => have := HIN.out; have := HJ.out; omega
   case rel => exact ⟨j + 1, by have := HJ.out; first | (congr 1; omega) | rfl, by have := HIN.out; have := HJ.out; omega, by omega, ⟨by repeat (first | exact B6.out | apply pw_below_drewN)⟩⟩
  ·obtain rfl : i = n := by omega
   have dd : decide ((i : Int) < (i : Int)) = false := decide_eq_false (by omega)
   clear hin h6
   go_wp2
   go_ret
   exact ⟨rfl, HB.out⟩
end Go.Proofs.Ytkicfaboibfbpaa.A
end
section
set_option linter.unusedVariables false
set_option linter.unusedSimpArgs false
namespace Go.Proofs.Ytkicfaboibfbpaa.A
open Go.RowKit Go.Proofs.YtkicfaboibfbpaaW.PrintWords Go.Proofs.YtkicfaboibfbpaaW.PrintLast Go.Proofs.YtkicfaboibfbpaaW.PrintMore Go.Proofs.Ytkicfaboibfbpaa.PCurveAts
set_option maxHeartbeats 16000000 in
theorem curveTurns_flat (A1 : Option Addr) (c1 : Nat) (l : List (Nat × Nat)) (A2 : Option Addr) (c2 : Nat) (xs : List Nat) (w : World) (hK : Kn w A1 l) (hc1 : l.length ≤ c1) (hl : kok l) (hX : Ws w A2 xs) (hc2 : xs.length ≤ c2) (hx : ∀ i, gt xs i < 4294967296) (g1 : ¬ 200 < l.length) (g2 : ¬ 200 < xs.length) (h0 : chk l = 0) (hf : flatB l = true) :
    Calls Try.prog 7 #[.slice A1 l.length c1, .slice A2 xs.length c2] w fun e w' => e = .returned (.bool true) ∧ Below w.heap.size w w' := by
 have HMK : Aside0 (∀ W, Below w.heap.size w W → Calls Try.prog 11 #[.slice A1 l.length c1] W fun e w' => ∃ g B cb, e = .returned (.tuple #[.pointer (some ⟨g, 0, none⟩), .bool true, .bool true]) ∧ NewC w' W.heap.size g B cb l ∧ Below W.heap.size W w') := ⟨fun W hb => makes_ok A1 c1 l hl (by omega) hc1 h0 W (hK.below hb)⟩
 have hv := chk_val hl h0
 have HV : Aside0 (Val l) := ⟨hv⟩
 have HRF : Aside0 (∀ W, Below w.heap.size w W → Calls Try.prog 23 #[.slice A1 l.length c1] W fun e w' => e = .returned (.tuple #[.slice none 0 0, .int .i64 44]) ∧ Below W.heap.size W w') := ⟨fun W hb => rTurn_flat A1 c1 l hv hf W hc1 (hK.below hb)⟩
 have HTF : Aside0 (∀ W g B cb, CvB W g B cb l → Calls Try.prog 24 #[.pointer (some ⟨g, 0, none⟩)] W fun e w' => e = .returned (.tuple #[.pointer none, .int .i64 44]) ∧ Below W.heap.size W w') := ⟨fun W g B cb h => Turn_flat g B cb l hv hf W h⟩
 obtain ⟨n, hn⟩ : ∃ n, l.length = n := ⟨_, rfl⟩
 obtain ⟨m, hm⟩ : ∃ n, xs.length = n := ⟨_, rfl⟩
 have HN := Aside0.mk hn
 have HM := Aside0.mk hm
 rw [hn] at g1 hc1 ⊢
 rw [hm] at g2 hc2 ⊢
 have d1 : decide ((n : Int) > 200) = false := decide_eq_false (by omega)
 have d2 : (200 < n) = False := eq_false (by omega)
 have d3 : decide ((m : Int) > 200) = false := decide_eq_false (by omega)
 have d4 : (200 < m) = False := eq_false (by omega)
 have HC1 := Aside0.mk hc1
 have HSZ : Aside0 (n ≤ 200 ∧ m ≤ 200) := ⟨by omega⟩
 rw [hn] at HMK HRF
 clear hK hc1 hl hX hc2 hx hn hm g1 g2 h0 hv hf
 have B_0 : Aside0 (Below w.heap.size w w) := ⟨Below.refl _ _⟩
 go_enter Try.func7, Try.ntmps7
 go_wp2_with (first | (go_at_call 10; (with_reducible refine (known_calls _).mono ?_); rintro e w1 ⟨rfl, hb⟩; have B_1 := Aside0.mk (below_step B_0.out hb); clear hb) | (go_at_call 11; (with_reducible refine (HMK.out w1 B_1.out).mono ?_); rintro e w2 ⟨g, B, cb, rfl, hC, hb⟩; have B_2 := Aside0.mk (below_step B_1.out hb); have C_2 : Aside0 (CvB w2 g B cb l) := ⟨hC.2.1⟩; clear hb hC) | (go_at_call 23; (with_reducible refine (HRF.out _ B_2.out).mono ?_); rintro e w3 ⟨rfl, hb⟩; have B_3 := Aside0.mk (below_step B_2.out hb); have C_3 := Aside0.mk (CvB.below C_2.out hb); clear C_2; clear hb) | (go_at_call 24; (with_reducible refine (HTF.out _ g B cb C_3.out).mono ?_); rintro e w4 ⟨rfl, hb⟩; have B_4 := Aside0.mk (below_step B_3.out hb); have C_4 := Aside0.mk (CvB.below C_3.out hb); clear C_3; clear hb))
 go_ret
 exact ⟨rfl, B_4.out⟩
set_option maxHeartbeats 16000000 in
theorem curveTurns_ok (A1 : Option Addr) (c1 : Nat) (l : List (Nat × Nat)) (A2 : Option Addr) (c2 : Nat) (xs : List Nat) (w : World) (hK : Kn w A1 l) (hc1 : l.length ≤ c1) (hl : kok l) (hX : Ws w A2 xs) (hc2 : xs.length ≤ c2) (hx : ∀ i, gt xs i < 4294967296) (g1 : ¬ 200 < l.length) (g2 : ¬ 200 < xs.length) (h0 : chk l = 0) (hf : flatB l = false) :
    Calls Try.prog 7 #[.slice A1 l.length c1, .slice A2 xs.length c2] w fun e w' => e = .returned (.bool true) ∧ Below w.heap.size w w' := by
 have HMK : Aside0 (∀ W, Below w.heap.size w W → Calls Try.prog 11 #[.slice A1 l.length c1] W fun e w' => ∃ g B cb, e = .returned (.tuple #[.pointer (some ⟨g, 0, none⟩), .bool true, .bool true]) ∧ NewC w' W.heap.size g B cb l ∧ Below W.heap.size W w') := ⟨fun W hb => makes_ok A1 c1 l hl (by omega) hc1 h0 W (hK.below hb)⟩
 have hv := chk_val hl h0
 have HV : Aside0 (Val l) := ⟨hv⟩
 have HK : Aside0 (∀ w', Below w.heap.size w w' → Kn w' A1 l) := ⟨fun w' hb => hK.below hb⟩
 have HX : Aside0 (∀ w', Below w.heap.size w w' → Ws w' A2 xs) := ⟨fun w' hb => hX.below hb⟩
 have HG := Aside0.mk hx
 have HLL := Aside0.mk hl
 have hvt := trn_val hv hf
 have h64 := hv.most
 have HRO : Aside0 (∀ W, Below w.heap.size w W → Calls Try.prog 23 #[.slice A1 l.length c1] W fun e w' => ∃ B c2, e = .returned (.tuple #[.slice B l.length c2, .int .i64 0]) ∧ l.length ≤ c2 ∧ Kn w' B (trn l) ∧ Below W.heap.size W w') := ⟨fun W hb => rTurn_ok A1 c1 l hv hf W hc1 (hK.below hb)⟩
 have HTO : Aside0 (∀ W g B cb, CvB W g B cb l → Calls Try.prog 24 #[.pointer (some ⟨g, 0, none⟩)] W fun e w' => ∃ g2 B c2, e = .returned (.tuple #[.pointer (some ⟨g2, 0, none⟩), .int .i64 0]) ∧ CvB w' g2 B c2 (trn l) ∧ Below W.heap.size W w') := ⟨fun W g B cb h => Turn_ok g B cb l hv hf W h⟩
 have HTT : Aside0 (∀ W g B cb, CvB W g B cb (trn l) → Calls Try.prog 24 #[.pointer (some ⟨g, 0, none⟩)] W fun e w' => ∃ g2 B c2, e = .returned (.tuple #[.pointer (some ⟨g2, 0, none⟩), .int .i64 0]) ∧ CvB w' g2 B c2 l ∧ Below W.heap.size W w') := ⟨fun W g B cb h => by
  have := Turn_ok g B cb (trn l) hvt (trn_flat hv) W h
  rw [trn_trn] at this
  exact this⟩
 have HKT : Aside0 (∀ W g B cb, CvB W g B cb (trn l) → Calls Try.prog 15 #[.pointer (some ⟨g, 0, none⟩)] W fun e w' => ∃ B cb, e = .returned (.slice B l.length cb) ∧ l.length ≤ cb ∧ Kn w' B (trn l) ∧ Below W.heap.size W w') := ⟨fun W g B cb h => KnotsT hvt (trn_len l) W g B cb h⟩
 have HKL : Aside0 (∀ W g B cb, CvB W g B cb l → Calls Try.prog 15 #[.pointer (some ⟨g, 0, none⟩)] W fun e w' => ∃ B cb, e = .returned (.slice B l.length cb) ∧ l.length ≤ cb ∧ Kn w' B l ∧ Below W.heap.size W w') := ⟨fun W g B cb h => KnotsT hv rfl W g B cb h⟩
 have HST : Aside0 (∀ W A B c d, l.length ≤ c → l.length ≤ d → Kn W A (trn l) → Kn W B (trn l) → Calls Try.prog 16 #[.slice A l.length c, .slice B l.length d] W fun e w' => e = .returned (.bool true) ∧ Below W.heap.size W w') := ⟨fun W A B c d h1 h2 h3 h4 => sameT (by rw [trn_len]; omega) (trn_len l) h1 h2 W h3 h4⟩
 have HSL : Aside0 (∀ W B d, l.length ≤ d → Kn W B l → Below w.heap.size w W → Calls Try.prog 16 #[.slice B l.length d, .slice A1 l.length c1] W fun e w' => e = .returned (.bool true) ∧ Below W.heap.size W w') := ⟨fun W B d h1 h2 hb => sameT (by omega) rfl h1 hc1 W h2 (hK.below hb)⟩
 have HRT : Aside0 (∀ W B d x, l.length ≤ d → Kn W B (trn l) → x < 4294967296 → Calls Try.prog 18 #[.slice B l.length d, .int .u32 ((x : Nat) : Int)] W fun e w' => e = .returned (.int .u32 ((atP (trn l) x : Nat) : Int)) ∧ Below W.heap.size W w') := ⟨fun W B d x h1 h2 h3 => by
  have := rAt_calls B d (trn l) hvt x h3 W (by rw [trn_len]; exact h1) h2
  rw [trn_len] at this
  exact this⟩
 have HTU : Aside0 (∀ W gt_ Bt ct gc Bc cc x, x < 4294967296 → Below w.heap.size w W → CvB W gt_ Bt ct (trn l) → CvB W gc Bc cc l → Calls Try.prog 26 #[.slice A1 l.length c1, .pointer (some ⟨gt_, 0, none⟩), .pointer (some ⟨gc, 0, none⟩), .int .u32 ((x : Nat) : Int)] W fun e w' => e = .returned (.bool true) ∧ Below W.heap.size W w') := ⟨fun W gt_ Bt ct gc Bc cc x hx hb h1 h2 => turned_calls A1 c1 l hv hf gt_ gc Bt Bc ct cc x hx W (hK.below hb) h1 h2⟩
 have HVT := Aside0.mk hvt
 have HKNB : Aside0 (∀ i, i < l.length → atP (trn l) (A.gk l i).2 = (A.gk l i).1) := ⟨fun i hi => knot_back hv hf hi⟩
 obtain ⟨n, hn⟩ : ∃ n, l.length = n := ⟨_, rfl⟩
 obtain ⟨m, hm⟩ : ∃ n, xs.length = n := ⟨_, rfl⟩
 have HN := Aside0.mk hn
 have HM := Aside0.mk hm
 rw [hn] at g1 hc1 ⊢
 rw [hm] at g2 hc2 ⊢
 have d1 : decide ((n : Int) > 200) = false := decide_eq_false (by omega)
 have d2 : (200 < n) = False := eq_false (by omega)
 have d3 : decide ((m : Int) > 200) = false := decide_eq_false (by omega)
 have d4 : (200 < m) = False := eq_false (by omega)
 have HC1 := Aside0.mk hc1
 have HSZ : Aside0 (n ≤ 200 ∧ m ≤ 200) := ⟨by omega⟩
 rw [hn] at HMK HRO HKT HKL HST HSL HRT HTU
 clear hK hc1 hl hX hc2 hx hn hm g1 g2 h0 hv hvt hf h64
 have B_0 : Aside0 (Below w.heap.size w w) := ⟨Below.refl _ _⟩
 go_enter Try.func7, Try.ntmps7
 go_wp2_with (first | (go_at_call 16; (with_reducible refine (HSL.out _ Bq cq CQ_8.out Q_8.out B_8.out).mono ?_); rintro e w9 ⟨rfl, hb⟩; have B_9 := Aside0.mk (below_step B_8.out hb); have C_9 := Aside0.mk (CvB.below C_8.out hb); have W_9 := Aside0.mk (Kn.below W_8.out hb); have CW_9 := Aside0.mk ((fun h _ => h) CW_8.out hb); have T_9 := Aside0.mk (CvB.below T_8.out hb); have K_9 := Aside0.mk (Kn.below K_8.out hb); have CK_9 := Aside0.mk ((fun h _ => h) CK_8.out hb); have V_9 := Aside0.mk (CvB.below V_8.out hb); have Q_9 := Aside0.mk (Kn.below Q_8.out hb); have CQ_9 := Aside0.mk ((fun h _ => h) CQ_8.out hb); clear C_8 W_8 CW_8 T_8 K_8 CK_8 V_8 Q_8 CQ_8; clear hb) | (go_at_call 15; (with_reducible refine (HKL.out _ g3 B3 c3 V_7.out).mono ?_); rintro e w8 ⟨Bq, cq, rfl, hck, hKk, hb⟩; have B_8 := Aside0.mk (below_step B_7.out hb); have C_8 := Aside0.mk (CvB.below C_7.out hb); have W_8 := Aside0.mk (Kn.below W_7.out hb); have CW_8 := Aside0.mk ((fun h _ => h) CW_7.out hb); have T_8 := Aside0.mk (CvB.below T_7.out hb); have K_8 := Aside0.mk (Kn.below K_7.out hb); have CK_8 := Aside0.mk ((fun h _ => h) CK_7.out hb); have V_8 := Aside0.mk (CvB.below V_7.out hb); clear C_7 W_7 CW_7 T_7 K_7 CK_7 V_7; have Q_8 := Aside0.mk (hKk); have CQ_8 := Aside0.mk (hck); clear hb hKk hck) | (go_at_call 24; (with_reducible refine (HTT.out _ gt_ Bt ct T_6.out).mono ?_); rintro e w7 ⟨g3, B3, c3, rfl, hT, hb⟩; have B_7 := Aside0.mk (below_step B_6.out hb); have C_7 := Aside0.mk (CvB.below C_6.out hb); have W_7 := Aside0.mk (Kn.below W_6.out hb); have CW_7 := Aside0.mk ((fun h _ => h) CW_6.out hb); have T_7 := Aside0.mk (CvB.below T_6.out hb); have K_7 := Aside0.mk (Kn.below K_6.out hb); have CK_7 := Aside0.mk ((fun h _ => h) CK_6.out hb); clear C_6 W_6 CW_6 T_6 K_6 CK_6; have V_7 := Aside0.mk (hT); clear hb hT) | (go_at_call 16; (with_reducible refine (HST.out _ Bk Bw ck cw CK_5.out CW_5.out K_5.out W_5.out).mono ?_); rintro e w6 ⟨rfl, hb⟩; have B_6 := Aside0.mk (below_step B_5.out hb); have C_6 := Aside0.mk (CvB.below C_5.out hb); have W_6 := Aside0.mk (Kn.below W_5.out hb); have CW_6 := Aside0.mk ((fun h _ => h) CW_5.out hb); have T_6 := Aside0.mk (CvB.below T_5.out hb); have K_6 := Aside0.mk (Kn.below K_5.out hb); have CK_6 := Aside0.mk ((fun h _ => h) CK_5.out hb); clear C_5 W_5 CW_5 T_5 K_5 CK_5; clear hb) | (go_at_call 15; (with_reducible refine (HKT.out _ gt_ Bt ct T_4.out).mono ?_); rintro e w5 ⟨Bk, ck, rfl, hck, hKk, hb⟩; have B_5 := Aside0.mk (below_step B_4.out hb); have C_5 := Aside0.mk (CvB.below C_4.out hb); have W_5 := Aside0.mk (Kn.below W_4.out hb); have CW_5 := Aside0.mk ((fun h _ => h) CW_4.out hb); have T_5 := Aside0.mk (CvB.below T_4.out hb); clear C_4 W_4 CW_4 T_4; have K_5 := Aside0.mk (hKk); have CK_5 := Aside0.mk (hck); clear hb hKk hck) | (go_at_call 24; (with_reducible refine (HTO.out _ g B cb C_3.out).mono ?_); rintro e w4 ⟨gt_, Bt, ct, rfl, hT, hb⟩; have B_4 := Aside0.mk (below_step B_3.out hb); have C_4 := Aside0.mk (CvB.below C_3.out hb); have W_4 := Aside0.mk (Kn.below W_3.out hb); have CW_4 := Aside0.mk ((fun h _ => h) CW_3.out hb); clear C_3 W_3 CW_3; have T_4 := Aside0.mk (hT); clear hb hT) | (go_at_call 23; (with_reducible refine (HRO.out _ B_2.out).mono ?_); rintro e w3 ⟨Bw, cw, rfl, hcw, hKw, hb⟩; have B_3 := Aside0.mk (below_step B_2.out hb); have C_3 := Aside0.mk (CvB.below C_2.out hb); clear C_2; have W_3 := Aside0.mk (hKw); have CW_3 := Aside0.mk (hcw); clear hb hKw hcw) | (go_at_call 11; (with_reducible refine (HMK.out w1 B_1.out).mono ?_); rintro e w2 ⟨g, B, cb, rfl, hC, hb⟩; have B_2 := Aside0.mk (below_step B_1.out hb); have C_2 : Aside0 (CvB w2 g B cb l) := ⟨hC.2.1⟩; clear hb hC) | (go_at_call 10; (with_reducible refine (known_calls _).mono ?_); rintro e w1 ⟨rfl, hb⟩; have B_1 := Aside0.mk (below_step B_0.out hb); clear hb))
 generalize w9 = W0 at *
 have HBW := B_9
 have HC := C_9
 have HT := T_9
 have HWK := W_9
 have HCW := CW_9
 clear B_9 C_9 T_9 W_9 CW_9 V_9 Q_9 CQ_9 K_9 CK_9
 go_loopg [14] n (fun kx s14 wr => ∃ i : Nat, s14 = .int .i64 (i : Int) ∧ i ≤ n ∧ n - i ≤ kx ∧ Aside0 (Below W0.heap.size W0 wr))
 case atStart => exact ⟨0, rfl, Nat.zero_le _, by omega, ⟨Below.refl _ _⟩⟩
 case round =>
  obtain ⟨i, rfl, i1, i2, HB⟩ := hrel
  have hs := HSZ.out
  by_cases hin : i < n
  ·have HIN := Aside0.mk hin
   have HLI : Aside0 (i < l.length) := ⟨by have := HN.out; omega⟩
   have e1i : decide ((0 : Int) ≤ (i : Int)) = true := decide_eq_true (by omega)
   have e2i : decide ((i : Int) < (n : Int)) = true := decide_eq_true (by omega)
   have e5i : ((0 : Int) ≤ (i : Int)) = True := eq_true (by omega)
   have e6i : ((i : Int) < (n : Int)) = True := eq_true (by omega)
   have e7i : (i < n) = True := eq_true (by omega)
   have wi : IntKind.i64.wrap ((i : Int) + 1) = ((i + 1 : Nat) : Int) := by rw [show IntKind.i64.wrap ((i : Int) + 1) = wrap64 ((i : Int) + 1) from i64_w _, w64 (by omega) (by omega)]; omega
   have HGI := Aside0.mk (gk_ok HV.out.ok i)
   have HKB := Aside0.mk (HKNB.out i HLI.out)
   have HES : Aside0 (eqv (A.gk l i).1 (A.gk l i).1 = true) := ⟨eqv_self (HV.out.nx HLI.out).1⟩
   obtain ⟨ad, rfl, _⟩ := kn_at (HK.out wr (below_step HBW.out HB.out)) i HLI.out
   obtain ⟨r0, r1⟩ := kn_at2 (HK.out wr (below_step HBW.out HB.out)) i HLI.out
   have HR0 := Aside0.mk r0
   have HR1 := Aside0.mk r1
   have B_0 : Aside0 (Below wr.heap.size wr wr) := ⟨Below.refl _ _⟩
   clear hs hin r0 r1
   go_wp2
   have B_1 : Aside0 (Below wr.heap.size wr wr.drew) := ⟨below_drew B_0.out⟩
   clear B_0
   refine start_ (n := 14) (S := fun w' => w'.cell? ⟨(ad.add (i * 2)).block, (ad.add (i * 2)).off + 1, none⟩ = some (.int .u32 ((A.gk l i).2 : Int)) ∧ w'.cell? (ad.add (i * 2)) = some (.int .u32 ((A.gk l i).1 : Int))) (ds := []) #[ff_,ff_,ff_,ff_,ff_,ff_,ff_,ff_,ff_,ff_,ff_,ff_,ff_,ff_] (by kernel_rfl) rfl rfl ⟨HR1.out, HR0.out⟩ (fun hHeld => ?_)
   generalize wr.drew = w1 at *
   refine pure_ (i := 0) (N := some 90) (v := ?_) (a' := ?_) #[tt_,ff_,ff_,ff_,ff_,ff_,ff_,ff_,ff_,ff_,ff_,ff_,ff_,ff_] rfl rfl (by kernel_rfl) (fun _ _ _ h => h) (Or.inl ⟨by rfl, ?_⟩) ?_ ?_
   rotate_left
   ·intro w'
    go_simp
    with_reducible rfl
   rotate_left
   ·simp only [Act.put, List.setIfInBounds_toArray, List.set_cons_zero, List.set_cons_succ, i64_w, i32_w]
    rfl
   refine pure_ (i := 1) (N := some 91) (v := ?_) (a' := ?_) #[tt_,tt_,ff_,ff_,ff_,ff_,ff_,ff_,ff_,ff_,ff_,ff_,ff_,ff_] rfl rfl (by kernel_rfl) (fun _ _ _ h => h) (Or.inl ⟨by rfl, ?_⟩) ?_ ?_
   rotate_left
   ·intro w'
    go_simp
    with_reducible rfl
   rotate_left
   ·simp only [Act.put, List.setIfInBounds_toArray, List.set_cons_zero, List.set_cons_succ, i64_w, i32_w]
    rfl
   refine pure_ (i := 2) (N := some 92) (v := ?_) (a' := ?_) #[tt_,tt_,tt_,ff_,ff_,ff_,ff_,ff_,ff_,ff_,ff_,ff_,ff_,ff_] rfl rfl (by kernel_rfl) (fun _ _ _ h => h) (Or.inl ⟨by rfl, ?_⟩) ?_ ?_
   rotate_left
   ·intro w'
    go_simp
    with_reducible rfl
   rotate_left
   ·simp only [Act.put, List.setIfInBounds_toArray, List.set_cons_zero, List.set_cons_succ, i64_w, i32_w]
    rfl
   refine pure_ (i := 3) (N := some 93) (v := ?_) (a' := ?_) #[tt_,tt_,tt_,tt_,ff_,ff_,ff_,ff_,ff_,ff_,ff_,ff_,ff_,ff_] rfl rfl (by kernel_rfl) (fun _ _ _ h => h) (Or.inl ⟨by rfl, ?_⟩) ?_ ?_
   rotate_left
   ·intro w'
    go_simp
    with_reducible rfl
   rotate_left
   ·simp only [Act.put, List.setIfInBounds_toArray, List.set_cons_zero, List.set_cons_succ, i64_w, i32_w]
    rfl
   refine pure_ (i := 4) (N := some 94) (v := ?_) (a' := ?_) #[tt_,tt_,tt_,tt_,tt_,ff_,ff_,ff_,ff_,ff_,ff_,ff_,ff_,ff_] rfl rfl (by kernel_rfl) (fun _ _ _ h => h) (Or.inl ⟨by rfl, ?_⟩) ?_ ?_
   rotate_left
   ·intro w'
    go_simp
    with_reducible rfl
   rotate_left
   ·simp only [Act.put, List.setIfInBounds_toArray, List.set_cons_zero, List.set_cons_succ, i64_w, i32_w]
    rfl
   refine pure_ (i := 7) (N := some 97) (v := ?_) (a' := ?_) #[tt_,tt_,tt_,tt_,tt_,ff_,ff_,tt_,ff_,ff_,ff_,ff_,ff_,ff_] rfl rfl (by kernel_rfl) (fun _ _ _ h => h) (Or.inl ⟨by rfl, ?_⟩) ?_ ?_
   rotate_left
   ·intro w'
    go_simp
    with_reducible rfl
   rotate_left
   ·simp only [Act.put, List.setIfInBounds_toArray, List.set_cons_zero, List.set_cons_succ, i64_w, i32_w]
    rfl
   refine pure_ (i := 8) (N := some 98) (v := ?_) (a' := ?_) #[tt_,tt_,tt_,tt_,tt_,ff_,ff_,tt_,tt_,ff_,ff_,ff_,ff_,ff_] rfl rfl (by kernel_rfl) (fun _ _ _ h => h) (Or.inl ⟨by rfl, ?_⟩) ?_ ?_
   rotate_left
   ·intro w'
    go_simp
    with_reducible rfl
   rotate_left
   ·simp only [Act.put, List.setIfInBounds_toArray, List.set_cons_zero, List.set_cons_succ, i64_w, i32_w]
    rfl
   refine pure_ (i := 9) (N := some 99) (v := ?_) (a' := ?_) #[tt_,tt_,tt_,tt_,tt_,ff_,ff_,tt_,tt_,tt_,ff_,ff_,ff_,ff_] rfl rfl (by kernel_rfl) (fun _ _ _ h => h) (Or.inl ⟨by rfl, ?_⟩) ?_ ?_
   rotate_left
   ·intro w'
    go_simp
    with_reducible rfl
   rotate_left
   ·simp only [Act.put, List.setIfInBounds_toArray, List.set_cons_zero, List.set_cons_succ, i64_w, i32_w]
    rfl
   refine pure_ (i := 10) (N := some 100) (v := ?_) (a' := ?_) #[tt_,tt_,tt_,tt_,tt_,ff_,ff_,tt_,tt_,tt_,tt_,ff_,ff_,ff_] rfl rfl (by kernel_rfl) (fun _ _ _ h => h) (Or.inl ⟨by rfl, ?_⟩) ?_ ?_
   rotate_left
   ·intro w'
    go_simp
    with_reducible rfl
   rotate_left
   ·simp only [Act.put, List.setIfInBounds_toArray, List.set_cons_zero, List.set_cons_succ, i64_w, i32_w]
    rfl
   refine take_ (i := 5) (N := some 95) (v := ?_) (a' := ?_) #[tt_,tt_,tt_,tt_,tt_,tt_,ff_,tt_,tt_,tt_,tt_,ff_,ff_,ff_] rfl rfl (by kernel_rfl) (fun _ _ _ h => h) (Or.inl ⟨by rfl, ?_⟩) hHeld ?_ ?_
   rotate_left
   ·rintro w' ⟨s0, s1⟩
    go_simp
    with_reducible rfl
   rotate_left
   ·simp only [Act.put, List.setIfInBounds_toArray, List.set_cons_zero, List.set_cons_succ, i64_w, i32_w]
    rfl
   refine take_ (i := 11) (N := some 101) (v := ?_) (a' := ?_) #[tt_,tt_,tt_,tt_,tt_,tt_,ff_,tt_,tt_,tt_,tt_,tt_,ff_,ff_] rfl rfl (by kernel_rfl) (fun _ _ _ h => h) (Or.inl ⟨by rfl, ?_⟩) hHeld ?_ ?_
   rotate_left
   ·rintro w' ⟨s0, s1⟩
    go_simp
    with_reducible rfl
   rotate_left
   ·simp only [Act.put, List.setIfInBounds_toArray, List.set_cons_zero, List.set_cons_succ, i64_w, i32_w]
    rfl
   refine one_ (i := 6) (N := some 96) #[tt_,tt_,tt_,tt_,tt_,tt_,tt_,tt_,tt_,tt_,tt_,tt_,ff_,ff_] rfl rfl (by kernel_rfl) (by decide) (fun K hK => ?_)
   refine goes_ Try.func17 (by kernel_rfl) rfl #[.pointer (some ⟨gt_, 0, none⟩), .int .u32 ((A.gk l i).2 : Int)] (by rfl) rfl rfl (by (try simp only [List.map_toArray, List.map_cons, List.map_nil]); rfl) ?_
   with_reducible refine (At_calls gt_ Bt ct (trn l) HVT.out (A.gk l i).2 HGI.out.2 _ ((HT.out.below HB.out).below B_1.out)).mono ?_
   rw [HKB.out]
   rintro e w2 ⟨rfl, hb⟩
   refine ⟨_, rfl, ?_⟩
   have B_2 := Aside0.mk (below_step B_1.out hb)
   clear hb
   refine hK.out _ _ ⟨pw_cell_below B_2.out HR1.out, pw_cell_below B_2.out HR0.out⟩ (fun hHeld => ?_)
   clear hK K
   refine norm_ (a' := ?_) ?_ ?_
   rotate_left
   ·show Act.put _ (some 96) _ = _
    simp only [Act.put, List.setIfInBounds_toArray, List.set_cons_zero, List.set_cons_succ, i64_w, i32_w]
    rfl
   refine one_ (i := 12) (N := some 102) #[tt_,tt_,tt_,tt_,tt_,tt_,tt_,tt_,tt_,tt_,tt_,tt_,tt_,ff_] rfl rfl (by kernel_rfl) (by decide) (fun K hK => ?_)
   refine goes_ Try.func25 (by kernel_rfl) rfl #[.int .u32 ((A.gk l i).1 : Int), .int .u32 ((A.gk l i).1 : Int)] (by rfl) rfl rfl (by (try simp only [List.map_toArray, List.map_cons, List.map_nil]); rfl) ?_
   with_reducible refine (rSame_calls _ _ HGI.out.1 HGI.out.1 _).mono ?_
   rw [HES.out]
   rintro e w3 ⟨rfl, hd⟩
   refine ⟨_, rfl, ?_⟩
   have hb := hd.below
   clear hd
   have B_3 := Aside0.mk (below_step B_2.out hb)
   clear hb
   refine hK.out _ _ ⟨pw_cell_below B_3.out HR1.out, pw_cell_below B_3.out HR0.out⟩ (fun hHeld => ?_)
   clear hK K
   refine norm_ (a' := ?_) ?_ ?_
   rotate_left
   ·show Act.put _ (some 102) _ = _
    simp only [Act.put, List.setIfInBounds_toArray, List.set_cons_zero, List.set_cons_succ, i64_w, i32_w]
    rfl
   refine pure_ (i := 13) (N := some 103) (v := ?_) (a' := ?_) #[tt_,tt_,tt_,tt_,tt_,tt_,tt_,tt_,tt_,tt_,tt_,tt_,tt_,tt_] rfl rfl (by kernel_rfl) (fun _ _ _ h => h) (Or.inl ⟨by rfl, ?_⟩) ?_ ?_
   rotate_left
   ·intro w'
    go_simp
    with_reducible rfl
   rotate_left
   ·simp only [Act.put, List.setIfInBounds_toArray, List.set_cons_zero, List.set_cons_succ, i64_w, i32_w]
    rfl
   refine done_ (by kernel_rfl) ?_
   go_wp2
   go_roundg (n - (i + 1))
   case measure => have := HIN.out; omega
   case rel => exact ⟨i + 1, by first | rfl | (congr 1; omega), HIN.out, by omega, ⟨below_step HB.out B_3.out⟩⟩
  ·obtain rfl : i = n := by omega
   have dd : decide ((i : Int) < (i : Int)) = false := decide_eq_false (by omega)
   clear hs hin
   go_wp2
   obtain ⟨w0, hw0⟩ : ∃ w0, w0 = wr := ⟨_, rfl⟩
   rw [← hw0]
   have HB0 : Aside0 (Below W0.heap.size W0 w0) := ⟨by rw [hw0]; exact HB.out⟩
   clear hw0 HB dd
   go_loopg [15] m (fun kx s10 wr => ∃ j : Nat, s10 = .int .i64 (j : Int) ∧ j ≤ m ∧ m - j ≤ kx ∧ Aside0 (Below W0.heap.size W0 wr))
   case atStart => exact ⟨0, rfl, Nat.zero_le _, by omega, HB0⟩
   case round =>
    obtain ⟨j, rfl, j1, j2, HB⟩ := hrel
    have hs := HSZ.out
    by_cases hjn : j < m
    ·have HJN := Aside0.mk hjn
     have HJX : Aside0 (j < xs.length) := ⟨by have := HM.out; omega⟩
     have e1j : decide ((0 : Int) ≤ (j : Int)) = true := decide_eq_true (by omega)
     have e2j : decide ((j : Int) < (m : Int)) = true := decide_eq_true (by omega)
     have e5j : ((0 : Int) ≤ (j : Int)) = True := eq_true (by omega)
     have e6j : ((j : Int) < (m : Int)) = True := eq_true (by omega)
     have e7j : (j < m) = True := eq_true (by omega)
     have wi : IntKind.i64.wrap ((j : Int) + 1) = ((j + 1 : Nat) : Int) := by rw [show IntKind.i64.wrap ((j : Int) + 1) = wrap64 ((j : Int) + 1) from i64_w _, w64 (by omega) (by omega)]; omega
     have BW : Aside0 (Below w.heap.size w wr) := ⟨below_step HBW.out HB.out⟩
     obtain ⟨ax, rfl, hcx⟩ := (HX.out wr BW.out).at_ j HJX.out
     have HCX := Aside0.mk hcx
     have HXL : Aside0 (gt xs j < 4294967296) := ⟨HG.out j⟩
     obtain ⟨x, hx⟩ : ∃ x, gt xs j = x := ⟨_, rfl⟩
     rw [hx] at HCX HXL
     have hte : (((atP (trn l) x : Nat) : Int) != ((atP (trn l) x : Nat) : Int)) = false := by rw [bne_eq_false_iff_eq]
     have B_0 : Aside0 (Below wr.heap.size wr wr) := ⟨Below.refl _ _⟩
     clear hs hjn hcx hx
     go_wp2
     have B_1 : Aside0 (Below wr.heap.size wr wr.drew) := ⟨below_drew B_0.out⟩
     clear B_0
     refine start_ (n := 24) (S := fun w' => w'.cell? (ax.add j) = some (.int .u32 (x : Int))) (ds := []) #[ff_,ff_,ff_,ff_,ff_,ff_,ff_,ff_,ff_,ff_,ff_,ff_,ff_,ff_,ff_,ff_,ff_,ff_,ff_,ff_,ff_,ff_,ff_,ff_] (by kernel_rfl) rfl rfl (HCX.out) (fun hHeld => ?_)
     generalize wr.drew = w1 at *
     refine pure_ (i := 0) (N := some 110) (v := ?_) (a' := ?_) #[tt_,ff_,ff_,ff_,ff_,ff_,ff_,ff_,ff_,ff_,ff_,ff_,ff_,ff_,ff_,ff_,ff_,ff_,ff_,ff_,ff_,ff_,ff_,ff_] rfl rfl (by kernel_rfl) (fun _ _ _ h => h) (Or.inl ⟨by rfl, ?_⟩) ?_ ?_
     rotate_left
     ·intro w'
      go_simp
      with_reducible rfl
     rotate_left
     ·simp only [Act.put, List.setIfInBounds_toArray, List.set_cons_zero, List.set_cons_succ, i64_w, i32_w]
      rfl
     refine pure_ (i := 1) (N := some 111) (v := ?_) (a' := ?_) #[tt_,tt_,ff_,ff_,ff_,ff_,ff_,ff_,ff_,ff_,ff_,ff_,ff_,ff_,ff_,ff_,ff_,ff_,ff_,ff_,ff_,ff_,ff_,ff_] rfl rfl (by kernel_rfl) (fun _ _ _ h => h) (Or.inl ⟨by rfl, ?_⟩) ?_ ?_
     rotate_left
     ·intro w'
      go_simp
      with_reducible rfl
     rotate_left
     ·simp only [Act.put, List.setIfInBounds_toArray, List.set_cons_zero, List.set_cons_succ, i64_w, i32_w]
      rfl
     refine pure_ (i := 2) (N := some 112) (v := ?_) (a' := ?_) #[tt_,tt_,tt_,ff_,ff_,ff_,ff_,ff_,ff_,ff_,ff_,ff_,ff_,ff_,ff_,ff_,ff_,ff_,ff_,ff_,ff_,ff_,ff_,ff_] rfl rfl (by kernel_rfl) (fun _ _ _ h => h) (Or.inl ⟨by rfl, ?_⟩) ?_ ?_
     rotate_left
     ·intro w'
      go_simp
      with_reducible rfl
     rotate_left
     ·simp only [Act.put, List.setIfInBounds_toArray, List.set_cons_zero, List.set_cons_succ, i64_w, i32_w]
      rfl
     refine pure_ (i := 3) (N := some 113) (v := ?_) (a' := ?_) #[tt_,tt_,tt_,tt_,ff_,ff_,ff_,ff_,ff_,ff_,ff_,ff_,ff_,ff_,ff_,ff_,ff_,ff_,ff_,ff_,ff_,ff_,ff_,ff_] rfl rfl (by kernel_rfl) (fun _ _ _ h => h) (Or.inl ⟨by rfl, ?_⟩) ?_ ?_
     rotate_left
     ·intro w'
      go_simp
      with_reducible rfl
     rotate_left
     ·simp only [Act.put, List.setIfInBounds_toArray, List.set_cons_zero, List.set_cons_succ, i64_w, i32_w]
      rfl
     refine pure_ (i := 6) (N := some 116) (v := ?_) (a' := ?_) #[tt_,tt_,tt_,tt_,ff_,ff_,tt_,ff_,ff_,ff_,ff_,ff_,ff_,ff_,ff_,ff_,ff_,ff_,ff_,ff_,ff_,ff_,ff_,ff_] rfl rfl (by kernel_rfl) (fun _ _ _ h => h) (Or.inl ⟨by rfl, ?_⟩) ?_ ?_
     rotate_left
     ·intro w'
      go_simp
      with_reducible rfl
     rotate_left
     ·simp only [Act.put, List.setIfInBounds_toArray, List.set_cons_zero, List.set_cons_succ, i64_w, i32_w]
      rfl
     refine pure_ (i := 7) (N := some 117) (v := ?_) (a' := ?_) #[tt_,tt_,tt_,tt_,ff_,ff_,tt_,tt_,ff_,ff_,ff_,ff_,ff_,ff_,ff_,ff_,ff_,ff_,ff_,ff_,ff_,ff_,ff_,ff_] rfl rfl (by kernel_rfl) (fun _ _ _ h => h) (Or.inl ⟨by rfl, ?_⟩) ?_ ?_
     rotate_left
     ·intro w'
      go_simp
      with_reducible rfl
     rotate_left
     ·simp only [Act.put, List.setIfInBounds_toArray, List.set_cons_zero, List.set_cons_succ, i64_w, i32_w]
      rfl
     refine pure_ (i := 8) (N := some 118) (v := ?_) (a' := ?_) #[tt_,tt_,tt_,tt_,ff_,ff_,tt_,tt_,tt_,ff_,ff_,ff_,ff_,ff_,ff_,ff_,ff_,ff_,ff_,ff_,ff_,ff_,ff_,ff_] rfl rfl (by kernel_rfl) (fun _ _ _ h => h) (Or.inl ⟨by rfl, ?_⟩) ?_ ?_
     rotate_left
     ·intro w'
      go_simp
      with_reducible rfl
     rotate_left
     ·simp only [Act.put, List.setIfInBounds_toArray, List.set_cons_zero, List.set_cons_succ, i64_w, i32_w]
      rfl
     refine pure_ (i := 9) (N := some 119) (v := ?_) (a' := ?_) #[tt_,tt_,tt_,tt_,ff_,ff_,tt_,tt_,tt_,tt_,ff_,ff_,ff_,ff_,ff_,ff_,ff_,ff_,ff_,ff_,ff_,ff_,ff_,ff_] rfl rfl (by kernel_rfl) (fun _ _ _ h => h) (Or.inl ⟨by rfl, ?_⟩) ?_ ?_
     rotate_left
     ·intro w'
      go_simp
      with_reducible rfl
     rotate_left
     ·simp only [Act.put, List.setIfInBounds_toArray, List.set_cons_zero, List.set_cons_succ, i64_w, i32_w]
      rfl
     refine take_ (i := 4) (N := some 114) (v := ?_) (a' := ?_) #[tt_,tt_,tt_,tt_,tt_,ff_,tt_,tt_,tt_,tt_,ff_,ff_,ff_,ff_,ff_,ff_,ff_,ff_,ff_,ff_,ff_,ff_,ff_,ff_] rfl rfl (by kernel_rfl) (fun _ _ _ h => h) (Or.inl ⟨by rfl, ?_⟩) hHeld ?_ ?_
     rotate_left
     ·intro w' s0
      go_simp
      with_reducible rfl
     rotate_left
     ·simp only [Act.put, List.setIfInBounds_toArray, List.set_cons_zero, List.set_cons_succ, i64_w, i32_w]
      rfl
     refine take_ (i := 10) (N := some 120) (v := ?_) (a' := ?_) #[tt_,tt_,tt_,tt_,tt_,ff_,tt_,tt_,tt_,tt_,tt_,ff_,ff_,ff_,ff_,ff_,ff_,ff_,ff_,ff_,ff_,ff_,ff_,ff_] rfl rfl (by kernel_rfl) (fun _ _ _ h => h) (Or.inl ⟨by rfl, ?_⟩) hHeld ?_ ?_
     rotate_left
     ·intro w' s0
      go_simp
      with_reducible rfl
     rotate_left
     ·simp only [Act.put, List.setIfInBounds_toArray, List.set_cons_zero, List.set_cons_succ, i64_w, i32_w]
      rfl
     refine one_ (i := 5) (N := some 115) #[tt_,tt_,tt_,tt_,tt_,tt_,tt_,tt_,tt_,tt_,tt_,ff_,ff_,ff_,ff_,ff_,ff_,ff_,ff_,ff_,ff_,ff_,ff_,ff_] rfl rfl (by kernel_rfl) (by decide) (fun K hK => ?_)
     refine goes_ Try.func17 (by kernel_rfl) rfl #[.pointer (some ⟨gt_, 0, none⟩), .int .u32 (x : Int)] (by rfl) rfl rfl (by (try simp only [List.map_toArray, List.map_cons, List.map_nil]); rfl) ?_
     with_reducible refine (At_calls gt_ Bt ct (trn l) HVT.out x HXL.out _ ((HT.out.below HB.out).below B_1.out)).mono ?_
     rintro e w2 ⟨rfl, hb⟩
     refine ⟨_, rfl, ?_⟩
     have B_2 := Aside0.mk (below_step B_1.out hb)
     clear hb
     refine hK.out _ _ (pw_cell_below B_2.out HCX.out) (fun hHeld => ?_)
     clear hK K
     refine norm_ (a' := ?_) ?_ ?_
     rotate_left
     ·show Act.put _ (some 115) _ = _
      simp only [Act.put, List.setIfInBounds_toArray, List.set_cons_zero, List.set_cons_succ, i64_w, i32_w]
      rfl
     refine one_ (i := 11) (N := some 121) #[tt_,tt_,tt_,tt_,tt_,tt_,tt_,tt_,tt_,tt_,tt_,tt_,ff_,ff_,ff_,ff_,ff_,ff_,ff_,ff_,ff_,ff_,ff_,ff_] rfl rfl (by kernel_rfl) (by decide) (fun K hK => ?_)
     refine goes_ Try.func18 (by kernel_rfl) rfl #[.slice Bw i cw, .int .u32 (x : Int)] (by rfl) rfl rfl (by (try simp only [List.map_toArray, List.map_cons, List.map_nil]); rfl) ?_
     with_reducible refine (HRT.out _ _ _ _ HCW.out ((HWK.out.below HB.out).below B_2.out) HXL.out).mono ?_
     rintro e w3 ⟨rfl, hb⟩
     refine ⟨_, rfl, ?_⟩
     have B_3 := Aside0.mk (below_step B_2.out hb)
     clear hb
     refine hK.out _ _ (pw_cell_below B_3.out HCX.out) (fun hHeld => ?_)
     clear hK K
     refine norm_ (a' := ?_) ?_ ?_
     rotate_left
     ·show Act.put _ (some 121) _ = _
      simp only [Act.put, List.setIfInBounds_toArray, List.set_cons_zero, List.set_cons_succ, i64_w, i32_w]
      rfl
     refine pure_ (i := 12) (N := some 122) (v := ?_) (a' := ?_) #[tt_,tt_,tt_,tt_,tt_,tt_,tt_,tt_,tt_,tt_,tt_,tt_,tt_,ff_,ff_,ff_,ff_,ff_,ff_,ff_,ff_,ff_,ff_,ff_] rfl rfl (by kernel_rfl) (fun _ _ _ h => h) (Or.inl ⟨by rfl, ?_⟩) ?_ ?_
     rotate_left
     ·intro w'
      go_simp
      with_reducible rfl
     rotate_left
     ·simp only [Act.put, List.setIfInBounds_toArray, List.set_cons_zero, List.set_cons_succ, i64_w, i32_w]
      rfl
     refine pure_ (i := 13) (N := some 123) (v := ?_) (a' := ?_) #[tt_,tt_,tt_,tt_,tt_,tt_,tt_,tt_,tt_,tt_,tt_,tt_,tt_,tt_,ff_,ff_,ff_,ff_,ff_,ff_,ff_,ff_,ff_,ff_] rfl rfl (by kernel_rfl) (fun _ _ _ h => h) (Or.inl ⟨by rfl, ?_⟩) ?_ ?_
     rotate_left
     ·intro w'
      go_simp
      with_reducible rfl
     rotate_left
     ·simp only [Act.put, List.setIfInBounds_toArray, List.set_cons_zero, List.set_cons_succ, i64_w, i32_w]
      rfl
     refine pure_ (i := 14) (N := some 124) (v := ?_) (a' := ?_) #[tt_,tt_,tt_,tt_,tt_,tt_,tt_,tt_,tt_,tt_,tt_,tt_,tt_,tt_,tt_,ff_,ff_,ff_,ff_,ff_,ff_,ff_,ff_,ff_] rfl rfl (by kernel_rfl) (fun _ _ _ h => h) (Or.inl ⟨by rfl, ?_⟩) ?_ ?_
     rotate_left
     ·intro w'
      go_simp
      with_reducible rfl
     rotate_left
     ·simp only [Act.put, List.setIfInBounds_toArray, List.set_cons_zero, List.set_cons_succ, i64_w, i32_w]
      rfl
     refine pure_ (i := 15) (N := some 125) (v := ?_) (a' := ?_) #[tt_,tt_,tt_,tt_,tt_,tt_,tt_,tt_,tt_,tt_,tt_,tt_,tt_,tt_,tt_,tt_,ff_,ff_,ff_,ff_,ff_,ff_,ff_,ff_] rfl rfl (by kernel_rfl) (fun _ _ _ h => h) (Or.inl ⟨by rfl, ?_⟩) ?_ ?_
     rotate_left
     ·intro w'
      go_simp
      with_reducible rfl
     rotate_left
     ·simp only [Act.put, List.setIfInBounds_toArray, List.set_cons_zero, List.set_cons_succ, i64_w, i32_w]
      rfl
     refine pure_ (i := 16) (N := some 126) (v := ?_) (a' := ?_) #[tt_,tt_,tt_,tt_,tt_,tt_,tt_,tt_,tt_,tt_,tt_,tt_,tt_,tt_,tt_,tt_,tt_,ff_,ff_,ff_,ff_,ff_,ff_,ff_] rfl rfl (by kernel_rfl) (fun _ _ _ h => h) (Or.inl ⟨by rfl, ?_⟩) ?_ ?_
     rotate_left
     ·intro w'
      go_simp
      with_reducible rfl
     rotate_left
     ·simp only [Act.put, List.setIfInBounds_toArray, List.set_cons_zero, List.set_cons_succ, i64_w, i32_w]
      rfl
     refine pure_ (i := 17) (N := some 127) (v := ?_) (a' := ?_) #[tt_,tt_,tt_,tt_,tt_,tt_,tt_,tt_,tt_,tt_,tt_,tt_,tt_,tt_,tt_,tt_,tt_,tt_,ff_,ff_,ff_,ff_,ff_,ff_] rfl rfl (by kernel_rfl) (fun _ _ _ h => h) (Or.inl ⟨by rfl, ?_⟩) ?_ ?_
     rotate_left
     ·intro w'
      go_simp
      with_reducible rfl
     rotate_left
     ·simp only [Act.put, List.setIfInBounds_toArray, List.set_cons_zero, List.set_cons_succ, i64_w, i32_w]
      rfl
     refine pure_ (i := 18) (N := some 128) (v := ?_) (a' := ?_) #[tt_,tt_,tt_,tt_,tt_,tt_,tt_,tt_,tt_,tt_,tt_,tt_,tt_,tt_,tt_,tt_,tt_,tt_,tt_,ff_,ff_,ff_,ff_,ff_] rfl rfl (by kernel_rfl) (fun _ _ _ h => h) (Or.inl ⟨by rfl, ?_⟩) ?_ ?_
     rotate_left
     ·intro w'
      go_simp
      with_reducible rfl
     rotate_left
     ·simp only [Act.put, List.setIfInBounds_toArray, List.set_cons_zero, List.set_cons_succ, i64_w, i32_w]
      rfl
     refine pure_ (i := 19) (N := some 129) (v := ?_) (a' := ?_) #[tt_,tt_,tt_,tt_,tt_,tt_,tt_,tt_,tt_,tt_,tt_,tt_,tt_,tt_,tt_,tt_,tt_,tt_,tt_,tt_,ff_,ff_,ff_,ff_] rfl rfl (by kernel_rfl) (fun _ _ _ h => h) (Or.inl ⟨by rfl, ?_⟩) ?_ ?_
     rotate_left
     ·intro w'
      go_simp
      with_reducible rfl
     rotate_left
     ·simp only [Act.put, List.setIfInBounds_toArray, List.set_cons_zero, List.set_cons_succ, i64_w, i32_w]
      rfl
     refine take_ (i := 20) (N := some 130) (v := ?_) (a' := ?_) #[tt_,tt_,tt_,tt_,tt_,tt_,tt_,tt_,tt_,tt_,tt_,tt_,tt_,tt_,tt_,tt_,tt_,tt_,tt_,tt_,tt_,ff_,ff_,ff_] rfl rfl (by kernel_rfl) (fun _ _ _ h => h) (Or.inl ⟨by rfl, ?_⟩) hHeld ?_ ?_
     rotate_left
     ·intro w' s0
      go_simp
      with_reducible rfl
     rotate_left
     ·simp only [Act.put, List.setIfInBounds_toArray, List.set_cons_zero, List.set_cons_succ, i64_w, i32_w]
      rfl
     refine one_ (i := 21) (N := some 131) #[tt_,tt_,tt_,tt_,tt_,tt_,tt_,tt_,tt_,tt_,tt_,tt_,tt_,tt_,tt_,tt_,tt_,tt_,tt_,tt_,tt_,tt_,ff_,ff_] rfl rfl (by kernel_rfl) (by decide) (fun K hK => ?_)
     refine goes_ Try.func26 (by kernel_rfl) rfl #[.slice A1 i c1, .pointer (some ⟨gt_, 0, none⟩), .pointer (some ⟨g, 0, none⟩), .int .u32 (x : Int)] (by rfl) rfl rfl (by (try simp only [List.map_toArray, List.map_cons, List.map_nil]); rfl) ?_
     with_reducible refine (HTU.out _ gt_ Bt ct g B cb _ HXL.out (below_step BW.out B_3.out) ((HT.out.below HB.out).below B_3.out) ((HC.out.below HB.out).below B_3.out)).mono ?_
     rintro e w4 ⟨rfl, hb⟩
     refine ⟨_, rfl, ?_⟩
     have B_4 := Aside0.mk (below_step B_3.out hb)
     clear hb
     refine hK.out _ _ (pw_cell_below B_4.out HCX.out) (fun hHeld => ?_)
     clear hK K
     refine norm_ (a' := ?_) ?_ ?_
     rotate_left
     ·show Act.put _ (some 131) _ = _
      simp only [Act.put, List.setIfInBounds_toArray, List.set_cons_zero, List.set_cons_succ, i64_w, i32_w]
      rfl
     refine pure_ (i := 22) (N := some 132) (v := ?_) (a' := ?_) #[tt_,tt_,tt_,tt_,tt_,tt_,tt_,tt_,tt_,tt_,tt_,tt_,tt_,tt_,tt_,tt_,tt_,tt_,tt_,tt_,tt_,tt_,tt_,ff_] rfl rfl (by kernel_rfl) (fun _ _ _ h => h) (Or.inl ⟨by rfl, ?_⟩) ?_ ?_
     rotate_left
     ·intro w'
      go_simp
      with_reducible rfl
     rotate_left
     ·simp only [Act.put, List.setIfInBounds_toArray, List.set_cons_zero, List.set_cons_succ, i64_w, i32_w]
      rfl
     refine pure_ (i := 23) (N := some 133) (v := ?_) (a' := ?_) #[tt_,tt_,tt_,tt_,tt_,tt_,tt_,tt_,tt_,tt_,tt_,tt_,tt_,tt_,tt_,tt_,tt_,tt_,tt_,tt_,tt_,tt_,tt_,tt_] rfl rfl (by kernel_rfl) (fun _ _ _ h => h) (Or.inl ⟨by rfl, ?_⟩) ?_ ?_
     rotate_left
     ·intro w'
      go_simp
      with_reducible rfl
     rotate_left
     ·simp only [Act.put, List.setIfInBounds_toArray, List.set_cons_zero, List.set_cons_succ, i64_w, i32_w]
      rfl
     refine done_ (by kernel_rfl) ?_
     go_wp2
     go_roundg (m - (j + 1))
     case measure => have := HJN.out; omega
     case rel => exact ⟨j + 1, by first | rfl | (congr 1; omega), HJN.out, by omega, ⟨below_step HB.out B_4.out⟩⟩
    ·obtain rfl : j = m := by omega
     have dd : decide ((j : Int) < (j : Int)) = false := decide_eq_false (by omega)
     clear hs hjn
     go_wp2
     go_ret
     exact ⟨rfl, below_step HBW.out HB.out⟩
theorem curveTurns (A1 : Option Addr) (c1 : Nat) (l : List (Nat × Nat)) (A2 : Option Addr) (c2 : Nat) (xs : List Nat) (w : World) (hK : Kn w A1 l) (hc1 : l.length ≤ c1) (hl : kok l) (hX : Ws w A2 xs) (hc2 : xs.length ≤ c2) (hx : ∀ i, gt xs i < 4294967296) :
    Calls Try.prog 7 #[.slice A1 l.length c1, .slice A2 xs.length c2] w fun e w' => e = .returned (.bool true) ∧ Below w.heap.size w w' := by
 by_cases g1 : 200 < l.length
 ·obtain ⟨n, hn⟩ : ∃ n, l.length = n := ⟨_, rfl⟩
  rw [hn] at g1 ⊢
  have d1 : decide ((n : Int) > 200) = true := decide_eq_true (by omega)
  have d2 : (200 < n) = True := eq_true (by omega)
  clear hK hc1 hl hX hc2 hx hn g1
  go_enter Try.func7, Try.ntmps7
  go_wp2_with ((go_at_call 10; (with_reducible refine (known_calls _).mono ?_); rintro e w1 ⟨rfl, hb⟩; have B1 := Aside0.mk hb; clear hb))
  go_ret
  exact ⟨rfl, B1.out⟩
 by_cases g2 : 200 < xs.length
 ·obtain ⟨n, hn⟩ : ∃ n, l.length = n := ⟨_, rfl⟩
  obtain ⟨m, hm⟩ : ∃ n, xs.length = n := ⟨_, rfl⟩
  rw [hn] at g1 ⊢
  rw [hm] at g2 ⊢
  have d1 : decide ((n : Int) > 200) = false := decide_eq_false (by omega)
  have d2 : (200 < n) = False := eq_false (by omega)
  have d3 : decide ((m : Int) > 200) = true := decide_eq_true (by omega)
  have d4 : (200 < m) = True := eq_true (by omega)
  clear hK hc1 hl hX hc2 hx hn hm g1 g2
  go_enter Try.func7, Try.ntmps7
  go_wp2_with ((go_at_call 10; (with_reducible refine (known_calls _).mono ?_); rintro e w1 ⟨rfl, hb⟩; have B1 := Aside0.mk hb; clear hb))
  go_ret
  exact ⟨rfl, B1.out⟩
 by_cases h0 : chk l = 0
 case neg =>
  have HMK : Aside0 (∀ W, Below w.heap.size w W → Calls Try.prog 11 #[.slice A1 l.length c1] W fun e w' => e = .returned (.tuple #[.pointer none, .bool false, .bool true]) ∧ Below W.heap.size W w') := ⟨fun W hb => makes_bad A1 c1 l hl (by omega) hc1 h0 W (hK.below hb)⟩
  obtain ⟨n, hn⟩ : ∃ n, l.length = n := ⟨_, rfl⟩
  obtain ⟨m, hm⟩ : ∃ n, xs.length = n := ⟨_, rfl⟩
  rw [hn] at HMK g1 ⊢
  rw [hm] at g2 ⊢
  have d1 : decide ((n : Int) > 200) = false := decide_eq_false (by omega)
  have d2 : (200 < n) = False := eq_false (by omega)
  have d3 : decide ((m : Int) > 200) = false := decide_eq_false (by omega)
  have d4 : (200 < m) = False := eq_false (by omega)
  clear hK hc1 hl hX hc2 hx hn hm g1 g2 h0
  go_enter Try.func7, Try.ntmps7
  go_wp2_with (first | (go_at_call 10; (with_reducible refine (known_calls _).mono ?_); rintro e w1 ⟨rfl, hb⟩; have B1 := Aside0.mk hb; clear hb) | (go_at_call 11; (with_reducible refine (HMK.out w1 B1.out).mono ?_); rintro e w2 ⟨rfl, hb⟩; have B2 := Aside0.mk (below_step B1.out hb); clear hb))
  go_ret
  exact ⟨rfl, B2.out⟩
 cases hf : flatB l
 ·exact curveTurns_ok A1 c1 l A2 c2 xs w hK hc1 hl hX hc2 hx g1 g2 h0 hf
 ·exact curveTurns_flat A1 c1 l A2 c2 xs w hK hc1 hl hX hc2 hx g1 g2 h0 hf
end Go.Proofs.Ytkicfaboibfbpaa.A
end
section
-- PRINTED WORDS (module Derived/Print/Sized.lean): go-gate-2's, for the rows of laws over slices: an AI agent of Go's test side, Tue Nov 17 2026; no person has read it. Lean checks it.
namespace Go.Proofs.YtkicfaboibfbpaaW.PrintWords
open Go.ChangeShapes Go.WideShapes
/-- A row's slice of whole numbers is no longer than its weight allows. -/
theorem sized_ints {H : Type} {enc : TypeId × Value → H} {P : Program} {W : World} {base : Nat} {spare : Nat → Bool} {held : Bool} {t e : TypeId} {k : IntKind} {a : Option Addr} {len cap : Nat} {d : DataW H} {ps : List MemPlace} {ts : List TypeId} {ds : List (DataW H)} {j : Nat}
    (hsz : (DataW.weightsEach P ts ds).all (· ≤ reachBytes) = true) (ht : ts[j]? = some t) (hd : ds[j]? = some d) (hu : P.underlying t = some (.slice e)) (he : P.underlying e = some (.int k)) (hc : P.cellsOf e = 1) {B : Nat} (hB : P.bytesOf e = B)
    (h : DataW.Trod enc P W base spare held t (.slice a len cap) d ps) : len * B ≤ 140737488351232 := by
 obtain ⟨fuel, hf⟩ := h
 rcases open_ints hu he hc hf with ⟨hcs, _⟩ | ⟨x, l, c, zs, hcs, _, hl, _, hz, hx, _, _⟩
 ·simp [Value.cells] at hcs
  obtain ⟨rfl, rfl, rfl⟩ := hcs
  simp
 ·simp [Value.cells] at hcs
  obtain ⟨rfl, rfl, rfl⟩ := hcs
  obtain ⟨hx, _⟩ := Prod.mk.inj hx
  subst hx
  have z := sized_slice hsz ht hd hu
  rw [hB] at z
  have hl2 : len ≤ zs.length := by
   rw [hz]
   split
   ·exact hl
   ·exact Nat.le_refl _
  have h1 : (lits (H := H) k (zs.take len)).length + (lits (H := H) k (zs.drop len)).length = zs.length := by
   simp [lits]
   omega
  rw [h1] at z
  exact Nat.le_trans (Nat.mul_le_mul_right _ hl2) z
end Go.Proofs.YtkicfaboibfbpaaW.PrintWords
end
section
set_option linter.unusedVariables false
set_option linter.unusedSimpArgs false
namespace Go.Proofs.Ytkicfaboibfbpaa.A
open Go.RowKit Go.ChangeShapes Go.WideShapes Go.ChangeAt Go.Proofs.YtkicfaboibfbpaaW.PrintWords Go.Proofs.YtkicfaboibfbpaaW.PrintLast Go.Proofs.YtkicfaboibfbpaaW.PrintMore Go.Proofs.Ytkicfaboibfbpaa.PCurveAts
theorem list_choose {α : Type} {P : Nat → α → Prop} : ∀ (n : Nat), (∀ i, i < n → ∃ a, P i a) → ∃ l : List α, l.length = n ∧ ∀ i a, l[i]? = some a → P i a := by
 intro n
 induction n with
 | zero => intro _; exact ⟨[], rfl, fun i a h => by simp at h⟩
 | succ n ih =>
  intro h
  obtain ⟨l, hl, hp⟩ := ih (fun i hi => h i (by omega))
  obtain ⟨a, ha⟩ := h n (by omega)
  refine ⟨l ++ [a], by simp [hl], fun i b hb => ?_⟩
  by_cases hi : i < n
  ·rw [List.getElem?_append_left (by omega)] at hb; exact hp i b hb
  ·rw [List.getElem?_append_right (by omega)] at hb
   have : i - l.length = 0 := by
    have := (List.getElem?_eq_some_iff.1 hb).1
    simp at this; omega
   rw [this] at hb
   simp at hb
   subst hb
   rw [show i = n by omega]; exact ha
theorem cells30 : Try.prog.cellsOf 30 = 1 := by kernel_rfl
theorem cells43 : Try.prog.cellsOf 43 = 2 := by kernel_rfl
section
variable {H : Type} {enc : TypeId × Value → H} {W : World}
theorem word_of_trod {fuel : Nat} {v : Value} {y : DataW H × List MemPlace} (h : DataW.trod enc Try.prog W 0 (fun _ => true) true fuel 30 [v] = some y) : ∃ n : Nat, v = .int .u32 (n : Int) ∧ n < 4294967296 := by
 obtain ⟨s, e0, rfl, hw⟩ := DataW.trod_int Try.underlying30 h
 injection e0 with e0 _
 obtain ⟨n, rfl, hn⟩ := wf32 hw
 exact ⟨n, e0, hn⟩
theorem knot_open {fuel : Nat} {cs : List Value} {y : DataW H × List MemPlace} (h : DataW.trod enc Try.prog W 0 (fun _ => true) true fuel 43 cs = some y) :
    ∃ k : Nat × Nat, cs = [.int .u32 (k.1 : Int), .int .u32 (k.2 : Int)] ∧ k.1 < 4294967296 ∧ k.2 < 4294967296 := by
 obtain ⟨y0, y1, n, rfl, hlen, h0, h1⟩ := trod_struct2 Try.underlying43 h
 simp only at h0 h1
 rw [cells30] at h0 h1
 have hc2 : cs.length = 2 := hlen.trans cells43
 obtain ⟨v0, v1, rfl⟩ : ∃ a b, cs = [a, b] := by
  match cs, hc2 with
  | [a, b], _ => exact ⟨a, b, rfl⟩
 have h0 : DataW.trod enc Try.prog W 0 (fun _ => true) true n 30 [v0] = some y0 := h0
 have h1 : DataW.trod enc Try.prog W 0 (fun _ => true) true n 30 [v1] = some y1 := h1
 obtain ⟨a, rfl, ha⟩ := word_of_trod h0
 obtain ⟨b, rfl, hb⟩ := word_of_trod h1
 exact ⟨(a, b), rfl, ha, hb⟩
theorem knots_open {fuel : Nat} {a : Option Addr} {len cap : Nat} {y : DataW H × List MemPlace} (h : DataW.trod enc Try.prog W 0 (fun _ => true) true fuel 23 [.slice a len cap] = some y) :
    ∃ l : List (Nat × Nat), l.length = len ∧ len ≤ cap ∧ Kn W a l ∧ kok l := by
 rcases Go.Deep.open_slice Try.underlying23 h with ⟨hcs, rfl⟩ | ⟨ad, len', cap', m, n, D, Pl, hcs, _, hl, hm, rfl, rfl, hel⟩
 ·injection hcs with hcs _
  injection hcs with e1 e2 e3
  subst e1 e2 e3
  exact ⟨[], rfl, Nat.le_refl _, ⟨rfl, by decide, fun h => absurd h (by decide)⟩, fun k hk => absurd hk (by simp)⟩
 injection hcs with hcs _
 injection hcs with e1 e2 e3
 subst e1 e2 e3
 obtain ⟨l, hll, hp⟩ := list_choose (α := Nat × Nat) (P := fun i k => ∃ cs' : List Value, W.cells? 0 (ad.add (i * 2)) 2 = some cs' ∧ cs' = [.int .u32 (k.1 : Int), .int .u32 (k.2 : Int)] ∧ k.1 < 4294967296 ∧ k.2 < 4294967296) len (fun i hi => by
  obtain ⟨cs', h1, h2⟩ := hel i (by show i < cap; omega)
  rw [cells43] at h1
  obtain ⟨k, h3, h4⟩ := knot_open h2
  exact ⟨k, cs', h1, h3, h4⟩)
 have hcap : cap ≤ 9223372036854775807 := hm
 subst hll
 refine ⟨l, rfl, hl, ⟨by rw [List.length_map], by omega, fun _ => ⟨ad, rfl, fun j p hj => ?_⟩⟩, fun k hk => ?_⟩
 ·rw [List.getElem?_map] at hj
  cases hlj : l[j]? with
  | none => rw [hlj] at hj; cases hj
  | some k =>
   rw [hlj] at hj
   obtain rfl := Option.some.inj hj
   obtain ⟨cs', h1, rfl, _⟩ := hp j k hlj
   have hc := (World.cells?_some h1).2.2
   refine ⟨_, rfl, k43.K_of_M (k43_mkM W 0 (fun _ => True) (kI k)), fun i u hu => ?_⟩
   match i, hu with
   | 0, hu => exact (hc 0 (by omega)).trans hu
   | 1, hu => exact ((congrArg W.cell? (Addr.add_add ad (j * 2) 1).symm).trans (hc 1 (by omega))).trans hu
 ·obtain ⟨j, hj, rfl⟩ := List.mem_iff_getElem.mp hk
  obtain ⟨_, _, _, h3⟩ := hp j _ (List.getElem?_eq_getElem hj)
  exact h3
end
end Go.Proofs.Ytkicfaboibfbpaa.A
end
