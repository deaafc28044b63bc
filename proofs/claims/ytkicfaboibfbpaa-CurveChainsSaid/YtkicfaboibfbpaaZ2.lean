import Derived.Test.YtkicfaboibfbpaaZ1
import Derived.Deep.LoopGhost
import Derived.Laws.Externs
import Derived.Laws.FloatArith
import Derived.Lib.SliceRun
import Derived.Shelf.Abstract
import Derived.Shelf.Lay
section
set_option linter.unusedVariables false
set_option linter.unusedSimpArgs false
namespace Go.Proofs.Ytkicfaboibfbpaa.A
open Go.RowKit Go.Proofs.YtkicfaboibfbpaaW.PrintWords Go.Proofs.YtkicfaboibfbpaaW.PrintLast Go.Proofs.YtkicfaboibfbpaaW.PrintMore Go.Proofs.Ytkicfaboibfbpaa.PCurveAts

theorem run_from (s : Nat) (w : World) : (callFunc 21 #[.int .u32 (s : Int)]).run Try.prog w = .ok (.value (.float .f32 s)) w := by
 rw [run_callFunc_extern Try.func21 (by kernel_rfl) (by kernel_rfl) (by kernel_rfl) (e := Extern.MathFloatBits.float32frombits) (by kernel_rfl)]
 rfl
theorem run_bits (s : Nat) (w : World) : (callFunc 64 #[.float .f32 s]).run Try.prog w = .ok (.value (.int .u32 (s : Int))) w := by
 rw [run_callFunc_extern Try.func64 (by kernel_rfl) (by kernel_rfl) (by kernel_rfl) (e := Extern.MathFloatBits.float32bits) (by kernel_rfl)]
 rfl
theorem aval_calls (s : Nat) (w : World) : Calls Try.prog 62 #[.int .u32 (s : Int)] w fun e w' => e = .returned (.float .f32 s) ∧ w' = w := by
 have hfrom := fun w => run_from s w
 go_enter Try.func62, Try.ntmps62
 go_wp2_with (((with_reducible refine gate_dst (N := 4) rfl ?_); refine Kd.event_run rfl (v := .float .f32 s) (w1 := w) ?hr ?_; (case hr => first | (go_simp; done) | (go_simp; rfl))))
 go_ret
 exact ⟨rfl, rfl⟩
theorem Less_calls (a b : Nat) (ha : a < 4294967296) (hb : b < 4294967296) (w : World) : Calls Try.prog 45 #[.int .u32 (a : Int), .int .u32 (b : Int)] w fun e w' => e = .returned (.bool (lt a b)) ∧ w' = w := by
 rw [← lt_ord ha hb]
 go_enter Try.func45, Try.ntmps45
 go_wp2_with (first | (go_at_call 62; refine (aval_calls a _).mono ?_; rintro e _ ⟨rfl, rfl⟩) | (go_at_call 62; refine (aval_calls b _).mono ?_; rintro e _ ⟨rfl, rfl⟩))
 go_ret
 exact ⟨rfl, rfl⟩
theorem Equal_calls (a b : Nat) (ha : a < 4294967296) (hb : b < 4294967296) (w : World) : Calls Try.prog 48 #[.int .u32 (a : Int), .int .u32 (b : Int)] w fun e w' => e = .returned (.bool (eqv a b)) ∧ w' = w := by
 rw [← eq_ord ha hb]
 go_enter Try.func48, Try.ntmps48
 go_wp2_with (first | (go_at_call 62; refine (aval_calls a _).mono ?_; rintro e _ ⟨rfl, rfl⟩) | (go_at_call 62; refine (aval_calls b _).mono ?_; rintro e _ ⟨rfl, rfl⟩))
 go_ret
 exact ⟨rfl, rfl⟩
theorem val_calls (s v : Nat) (h : wv s = some v) (w : World) : Calls Try.prog 63 #[.int .u32 (s : Int)] w fun e w' => e = .returned (.float .f64 v) ∧ w' = w := by
 have hfrom := fun w => run_from s w
 have hc : ∀ w, (convert 50 91 (.float .f32 s)).run Try.prog w = .ok (.float .f64 v) w := fun w => run_convert_float_float w 50 91 .f32 .f64 s v (by rw [Try.underlying50]; rfl) Try.underlying91 h
 go_enter Try.func63, Try.ntmps63
 go_wp2_with (first | ((with_reducible refine gate_dst (N := 4) rfl ?_); refine Kd.event_run rfl (v := .float .f32 s) (w1 := w) ?hr ?_; (case hr => first | (go_simp; done) | (go_simp; rfl))) | ((with_reducible refine gate_dst (N := 5) rfl ?_); refine Kd.event_run rfl (v := .float .f64 v) (w1 := w) ?hr ?_; (case hr => first | (go_simp; done) | (go_simp; rfl))))
 go_ret
 exact ⟨rfl, rfl⟩
theorem rval_calls (s v : Nat) (h : wv s = some v) (w : World) : Calls Try.prog 65 #[.int .u32 (s : Int)] w fun e w' => e = .returned (.float .f64 v) ∧ w' = w := by
 have hfrom := fun w => run_from s w
 have hc : ∀ w, (convert 50 91 (.float .f32 s)).run Try.prog w = .ok (.float .f64 v) w := fun w => run_convert_float_float w 50 91 .f32 .f64 s v (by rw [Try.underlying50]; rfl) Try.underlying91 h
 go_enter Try.func65, Try.ntmps65
 go_wp2_with (first | ((with_reducible refine gate_dst (N := 4) rfl ?_); refine Kd.event_run rfl (v := .float .f32 s) (w1 := w) ?hr ?_; (case hr => first | (go_simp; done) | (go_simp; rfl))) | ((with_reducible refine gate_dst (N := 5) rfl ?_); refine Kd.event_run rfl (v := .float .f64 v) (w1 := w) ?hr ?_; (case hr => first | (go_simp; done) | (go_simp; rfl))))
 go_ret
 exact ⟨rfl, rfl⟩
end Go.Proofs.Ytkicfaboibfbpaa.A
end
section
set_option linter.unusedVariables false
set_option linter.unusedSimpArgs false
namespace Go.Proofs.Ytkicfaboibfbpaa.A
open Go.RowKit Go.Proofs.YtkicfaboibfbpaaW.PrintWords Go.Proofs.YtkicfaboibfbpaaW.PrintLast Go.Proofs.YtkicfaboibfbpaaW.PrintMore Go.Proofs.Ytkicfaboibfbpaa.PCurveAts
theorem wraps_u32 (n : Int) (h₀ : 0 ≤ n) (h₁ : n < 2 ^ 32) : IntKind.u32.wrap n = n := by rw [IntKind.wrap_u32]; omega
theorem u32_and255 {x : Int} (h₀ : 0 ≤ x) (h₁ : x < 4294967296) : bits .and .u32 x 255 = x % 256 := bits_mask .u32 32 (by decide) wraps_u32 8 (by decide) x h₀ h₁
theorem u32_and23 {x : Int} (h₀ : 0 ≤ x) (h₁ : x < 4294967296) : bits .and .u32 x 8388607 = x % 8388608 := bits_mask .u32 32 (by decide) wraps_u32 23 (by decide) x h₀ h₁
theorem u32_and31 {x : Int} (h₀ : 0 ≤ x) (h₁ : x < 4294967296) : bits .and .u32 x 2147483647 = x % 2147483648 := bits_mask .u32 32 (by decide) wraps_u32 31 (by decide) x h₀ h₁
theorem w64 {n : Int} (h1 : -9223372036854775808 ≤ n) (h2 : n < 9223372036854775808) : wrap64 n = n := by
 unfold wrap64; omega
/-- is the sample finite? -/
def fin (s : Nat) : Bool := decide (s / 8388608 % 256 ≠ 255)
/-- its key -/
def kf (s : Nat) : Nat := if s < 2147483648 then s + 2147483648 else 4294967295 - s
/-- the sample of a key -/
def fk (k : Nat) : Nat := if 2147483648 ≤ k then k - 2147483648 else 4294967295 - k
theorem Class_f (s : Nat) (h : s < 4294967296) : ∃ r : Int, bits_Class.f (s : Int) = some r ∧ (r == 1) = isnan s ∧ (if r = 1 then false else r != 2) = fin s := by
 have e1 : bits_split.f (s : Int) = some (decide ((s : Int) ≥ 2147483648), (s : Int) / 8388608 % 256, (s : Int) % 8388608) := by
  unfold bits_split.f
  rw [u32_and255 (by omega) (by omega), u32_and23 (by omega) (by omega), w64 (by omega) (by omega), w64 (by omega) (by omega)]
 unfold bits_Class.f
 rw [e1]
 simp only [Option.bind_some]
 unfold isnan fin
 have a1 : ((s : Int) / 8388608 % 256 = 255) ↔ (s / 2 ^ 23 % 256 = 255) := by
  rw [show (2 : Nat) ^ 23 = 8388608 by decide]; omega
 have a2 : ((s : Int) % 8388608 = 0) ↔ (s % 2 ^ 23 = 0) := by
  rw [show (2 : Nat) ^ 23 = 8388608 by decide]; omega
 by_cases c1 : s / 2 ^ 23 % 256 = 255
 ·have b1 := a1.mpr c1
  have c0 : ((s : Int) / 8388608 % 256 == 0) = false := by rw [b1]; decide
  have c5 : ((s : Int) / 8388608 % 256 == 255) = true := by rw [b1]; decide
  have c9 : s / 8388608 % 256 = 255 := by omega
  rw [c0, c5]
  simp only [Bool.false_and, Bool.true_and, Bool.false_eq_true, if_false, b1, if_true]
  by_cases c2 : s % 2 ^ 23 = 0
  ·have b2 := a2.mpr c2
   rw [b2]
   exact ⟨2, by simp, by simp [c2], by simp [c9]⟩
  ·have b2 : ((s : Int) % 8388608 == 0) = false := by rw [beq_eq_false_iff_ne]; intro h; exact c2 (a2.mp h)
   rw [b2]
   exact ⟨1, by simp, by simp [c1, c2], by simp [c9]⟩
 ·have b1 : ¬ ((s : Int) / 8388608 % 256 = 255) := fun h => c1 (a1.mp h)
  have c9 : s / 8388608 % 256 ≠ 255 := by omega
  have c5 : ((s : Int) / 8388608 % 256 == 255) = false := by rw [beq_eq_false_iff_ne]; exact b1
  rw [c5]
  simp only [Bool.false_and, Bool.false_eq_true, if_false, b1]
  have e : (decide (s / 2 ^ 23 % 256 = 255) && decide (s % 2 ^ 23 ≠ 0)) = false := by rw [decide_eq_false c1]; rfl
  rw [e, decide_eq_true c9]
  split
  ·exact ⟨5, rfl, rfl, rfl⟩
  ·split
   ·exact ⟨4, rfl, rfl, rfl⟩
   ·exact ⟨3, rfl, rfl, rfl⟩
section
variable (s : Nat) (hs : s < 4294967296) (w : World)
include hs
theorem IsNaN_calls : Calls Try.prog 44 #[.int .u32 (s : Int)] w fun e w' => e = .returned (.bool (isnan s)) ∧ Below w.heap.size w w' := by
 obtain ⟨r, e1, e2, _⟩ := Class_f s hs
 refine bits_IsNaN.calls (s : Int) _ w ?_
 unfold bits_IsNaN.f
 rw [e1, ← e2]
 rfl
theorem finite_calls : Calls Try.prog 53 #[.int .u32 (s : Int)] w fun e w' => e = .returned (.bool (fin s)) ∧ Below w.heap.size w w' := by
 obtain ⟨r, e1, _, e2⟩ := Class_f s hs
 refine curve_finite.calls (s : Int) _ w ?_
 unfold curve_finite.f
 rw [e1, ← e2]
 simp only [Option.bind_some]
 split <;> rfl
theorem Key_f : bits_Key.f (s : Int) = some ((kf s : Nat) : Int) := by
 unfold bits_Key.f kf
 by_cases h : s < 2147483648
 ·rw [if_pos (by omega), if_pos h]; exact congrArg some (by omega)
 ·rw [if_neg (by omega), if_neg h]; exact congrArg some (by omega)
theorem FromKey_f : bits_FromKey.f (s : Int) = some ((fk s : Nat) : Int) := by
 unfold bits_FromKey.f fk
 by_cases h : 2147483648 ≤ s
 ·rw [if_pos (by omega), if_pos h]; exact congrArg some (by omega)
 ·rw [if_neg (by omega), if_neg h]; exact congrArg some (by omega)
theorem kf_lt : kf s < 4294967296 := by unfold kf; split <;> omega
theorem Key_calls : Calls Try.prog 55 #[.int .u32 (s : Int)] w fun e w' => e = .returned (.int .u32 ((kf s : Nat) : Int)) ∧ Drawn0 w w' := bits_Key.calls _ _ w (Key_f s hs)
theorem FromKey_calls : Calls Try.prog 57 #[.int .u32 (s : Int)] w fun e w' => e = .returned (.int .u32 ((fk s : Nat) : Int)) ∧ Drawn0 w w' := bits_FromKey.calls _ _ w (FromKey_f s hs)
theorem Prev_calls : Calls Try.prog 58 #[.int .u32 (s : Int)] w fun e w' => e = .returned (.tuple #[.int .u32 (((if kf s = 0 then 0 else fk (kf s - 1)) : Nat) : Int), .bool (decide (kf s ≠ 0))]) ∧ Drawn0 w w' := by
 refine bits_Prev.calls _ _ _ w ?_
 unfold bits_Prev.f
 rw [Key_f s hs]
 have hk := kf_lt s hs
 simp only [Option.bind_some]
 by_cases h : kf s = 0
 ·rw [h]; simp
 ·rw [if_neg (by omega), show (((kf s : Nat) : Int) - 1) % 4294967296 = ((kf s - 1 : Nat) : Int) by omega, FromKey_f _ (by omega), if_neg h, decide_eq_true h]; rfl
theorem rNaN_f : halideref4_NaN.f (s : Int) = some (isnan s) := by
 unfold halideref4_NaN.f isnan
 rw [u32_and31 (by omega) (by omega), show (2 : Nat) ^ 23 = 8388608 by decide]
 congr 1
 rw [← Bool.decide_and, decide_eq_decide]
 constructor <;> intro h
 ·omega
 ·omega
theorem rNaN_calls : Calls Try.prog 37 #[.int .u32 (s : Int)] w fun e w' => e = .returned (.bool (isnan s)) ∧ Drawn0 w w' := halideref4_NaN.calls _ _ w (rNaN_f s hs)
theorem rFinite_f : halideref4_Finite.f (s : Int) = some (fin s) := by
 unfold halideref4_Finite.f fin
 rw [u32_and255 (by omega) (by omega)]
 congr 1
 by_cases h : s / 8388608 % 256 = 255
 ·rw [decide_eq_false (by omega)]
  exact bne_eq_false_iff_eq.mpr (by omega)
 ·rw [decide_eq_true h]
  exact bne_iff_ne.mpr (by omega)
theorem rKey_f : halideref4_Key.f (s : Int) = some ((kf s : Nat) : Int) := by
 unfold halideref4_Key.f kf
 rw [w64 (n := (s : Int)) (by omega) (by omega)]
 by_cases h : s < 2147483648
 ·rw [if_pos (by omega), if_pos h, w64 (by omega) (by omega)]; exact congrArg some (by omega)
 ·rw [if_neg (by omega), if_neg h, w64 (by omega) (by omega)]; exact congrArg some (by omega)
theorem rKey_calls : Calls Try.prog 29 #[.int .u32 (s : Int)] w fun e w' => e = .returned (.int .i64 ((kf s : Nat) : Int)) ∧ Drawn0 w w' := halideref4_Key.calls _ _ w (rKey_f s hs)
theorem rplace_f : halideref4_place.f (s : Int) = some (((if s = 2147483648 then kf 0 else kf s) : Nat) : Int) := by
 unfold halideref4_place.f
 by_cases h : s = 2147483648
 ·rw [if_pos (by omega), if_pos h]
  have := rKey_f 0 (by decide)
  rw [show ((0 : Nat) : Int) = 0 from rfl] at this
  rw [this]; rfl
 ·rw [if_neg (by omega), if_neg h, rKey_f s hs]; rfl
end
theorem place_pz {a b : Nat} (ha : a < 4294967296) (hb : b < 4294967296) : ((if a = 2147483648 then kf 0 else kf a) < (if b = 2147483648 then kf 0 else kf b) ↔ pz a < pz b) ∧ ((if a = 2147483648 then kf 0 else kf a) = (if b = 2147483648 then kf 0 else kf b) ↔ pz a = pz b) := by
 unfold kf pz
 rw [if_pos (show 0 < 2147483648 by decide)]
 constructor
 all_goals
  repeat' split
  all_goals (constructor <;> intro h <;> omega)
section
variable (a b : Nat) (ha : a < 4294967296) (hb : b < 4294967296) (w : World)
include ha hb
theorem Before_calls : Calls Try.prog 59 #[.int .u32 (a : Int), .int .u32 (b : Int)] w fun e w' => e = .returned (.bool (decide (kf a < kf b))) ∧ Drawn0 w w' := by
 refine bits_Before.calls _ _ _ w ?_
 unfold bits_Before.f
 rw [Key_f a ha, Key_f b hb]
 simp only [Option.bind_some]
 congr 1
 rw [decide_eq_decide]; omega
theorem rBelow_f : halideref4_Below.f (a : Int) (b : Int) = some (lt a b) := by
 unfold halideref4_Below.f lt
 rw [rNaN_f a ha, rNaN_f b hb, rplace_f a ha, rplace_f b hb]
 simp only [Option.bind_some]
 cases isnan a
 ·cases isnan b
  ·simp only [Bool.false_eq_true, if_false, Bool.not_false, Bool.true_and]
   congr 1
   rw [decide_eq_decide, ← (place_pz ha hb).1]; omega
  ·rfl
 ·rfl
theorem rBelow_calls : Calls Try.prog 38 #[.int .u32 (a : Int), .int .u32 (b : Int)] w fun e w' => e = .returned (.bool (lt a b)) ∧ Drawn0 w w' := halideref4_Below.calls _ _ _ w (rBelow_f a b ha hb)
theorem rSame_f : halideref4_Same.f (a : Int) (b : Int) = some (eqv a b) := by
 unfold halideref4_Same.f eqv
 rw [rNaN_f a ha, rNaN_f b hb, rplace_f a ha, rplace_f b hb]
 simp only [Option.bind_some]
 cases isnan a
 ·cases isnan b
  ·simp only [Bool.false_eq_true, if_false, Bool.not_false, Bool.true_and]
   congr 1
   rw [Bool.eq_iff_iff, beq_iff_eq, decide_eq_true_iff, ← (place_pz ha hb).2]; omega
  ·rfl
 ·rfl
theorem rSame_calls : Calls Try.prog 25 #[.int .u32 (a : Int), .int .u32 (b : Int)] w fun e w' => e = .returned (.bool (eqv a b)) ∧ Drawn0 w w' := halideref4_Same.calls _ _ _ w (rSame_f a b ha hb)
end
end Go.Proofs.Ytkicfaboibfbpaa.A
end
section
set_option linter.unusedVariables false
set_option linter.unusedSimpArgs false
namespace Go.Proofs.Ytkicfaboibfbpaa.A
open Go.RowKit Go.Proofs.YtkicfaboibfbpaaW.PrintWords Go.Proofs.YtkicfaboibfbpaaW.PrintLast Go.Proofs.YtkicfaboibfbpaaW.PrintMore Go.Proofs.Ytkicfaboibfbpaa.PCurveAts
/-- a knot as the printed texts have it -/
def kI (k : Nat × Nat) : S43 := ⟨(k.1 : Int), (k.2 : Int)⟩
/-- the knot at a place -/
def gk (l : List (Nat × Nat)) (i : Nat) : Nat × Nat := l.getD i (0, 0)
/-- a row of knots in memory -/
def Kn (w : World) (A : Option Addr) (l : List (Nat × Nat)) : Prop := Kd.C k43 w A l.length (l.map kI)
/-- words all -/
def kok (l : List (Nat × Nat)) : Prop := ∀ k ∈ l, k.1 < 4294967296 ∧ k.2 < 4294967296
theorem gk_ok {l : List (Nat × Nat)} (h : kok l) (i : Nat) : (gk l i).1 < 4294967296 ∧ (gk l i).2 < 4294967296 := by
 unfold gk
 rw [List.getD_eq_getElem?_getD]
 rcases Nat.lt_or_ge i l.length with h1 | h1
 ·rw [List.getElem?_eq_getElem h1]; exact h _ (List.getElem_mem h1)
 ·rw [List.getElem?_eq_none h1]; exact ⟨by decide, by decide⟩
theorem rd_kI (l : List (Nat × Nat)) (i : Nat) : rd_T43 (l.map kI) (i : Int) = kI (gk l i) := by
 unfold rd_T43 gk
 rw [List.getD_eq_getElem?_getD, List.getD_eq_getElem?_getD, Int.toNat_natCast, List.getElem?_map]
 cases l[i]? <;> rfl
theorem Kn.below {w w' : World} {A : Option Addr} {l : List (Nat × Nat)} (h : Kn w A l) (hb : Below w.heap.size w w') : Kn w' A l := Kd.C_below h hb
theorem drop_cons {α : Type} (l : List α) (z : α) {i : Nat} (h : i < l.length) : l.drop i = l.getD i z :: l.drop (i + 1) := by
 rw [List.getD_eq_getElem?_getD, List.getElem?_eq_getElem h]
 exact List.drop_eq_getElem_cons h
/-- not all are finite -/
def bad1 (l : List (Nat × Nat)) : Bool := l.any fun k => !fin k.1 || !fin k.2
/-- not all rise -/
def bad2 : List (Nat × Nat) → Bool
 | a :: b :: t => !lt a.1 b.1 || lt b.2 a.2 || bad2 (b :: t)
 | _ => false
/-- whether knots may be -/
def chk (l : List (Nat × Nat)) : Nat := if l.length < 2 ∨ 64 < l.length then 40 else if bad1 l = true then 41 else if bad2 l = true then 42 else 0
section
variable (l : List (Nat × Nat)) (hl : kok l)
include hl
theorem chk_l1 (h64 : l.length < 1000) : ∀ n i k, 1 ≤ i → l.length = i + n → n < k → halideref4_Check.l1 k (l.map kI) (i : Int) = some (if bad2 (l.drop (i - 1)) = true then 42 else 0)
 | 0, i, k + 1, h1, h2, _ => by
  unfold halideref4_Check.l1
  rw [List.length_map, if_neg (by omega)]
  have e : l.drop (i - 1) = [gk l (i - 1)] := by
   rw [drop_cons l (0, 0) (show i - 1 < l.length by omega), List.drop_eq_nil_of_le (by omega)]; rfl
  rw [e]; rfl
 | n + 1, i, k + 1, h1, h2, h3 => by
  unfold halideref4_Check.l1
  have g0 := gk_ok hl (i - 1)
  have g1 := gk_ok hl i
  rw [List.length_map, if_pos (by omega), w64 (n := (i : Int) - 1) (by omega) (by omega), if_pos (by omega), if_pos (by omega), if_pos (by omega), show (i : Int) - 1 = ((i - 1 : Nat) : Int) by omega, rd_kI, rd_kI]
  have e : l.drop (i - 1) = gk l (i - 1) :: gk l i :: l.drop (i + 1) := by
   rw [drop_cons l (0, 0) (show i - 1 < l.length by omega), show i - 1 + 1 = i by omega, drop_cons l (0, 0) (show i < l.length by omega)]; rfl
  have e2 : gk l i :: l.drop (i + 1) = l.drop (i + 1 - 1) := by
   rw [show i + 1 - 1 = i by omega, drop_cons l (0, 0) (show i < l.length by omega)]; rfl
  have ih := chk_l1 h64 n (i + 1) k (by omega) (by omega) (by omega)
  rw [e]
  unfold bad2
  rw [e2]
  show ((halideref4_Below.f ((gk l (i - 1)).1 : Int) ((gk l i).1 : Int)).bind fun t139 => (if t139 = true then ((halideref4_Below.f ((gk l i).2 : Int) ((gk l (i - 1)).2 : Int)).bind fun t142 => (if t142 = true then (some 42) else (halideref4_Check.l1 k (l.map kI) (wrap64 ((i : Int) + 1))))) else (some 42))) = _
  rw [rBelow_f _ _ g0.1 g1.1, rBelow_f _ _ g1.2 g0.2, w64 (by omega) (by omega), show (i : Int) + 1 = ((i + 1 : Nat) : Int) by omega, ih]
  simp only [Option.bind_some]
  cases lt (gk l (i - 1)).1 (gk l i).1 <;> cases lt (gk l i).2 (gk l (i - 1)).2 <;> simp
theorem chk_l0 (h64 : l.length < 1000) : ∀ n i k, l.length = i + n → n + l.length + 1 < k → halideref4_Check.l0 k (l.map kI) (i : Int) = some (if bad1 (l.drop i) = true then 41 else if bad2 l = true then 42 else 0)
 | 0, i, k + 1, h2, h3 => by
  unfold halideref4_Check.l0
  rw [List.length_map, if_neg (by omega)]
  have h5 : l.drop i = [] := List.drop_eq_nil_of_le (by omega)
  rw [h5]
  rcases Nat.eq_zero_or_pos l.length with h0 | h0
  ·obtain rfl := List.length_eq_zero_iff.mp h0
   obtain ⟨k, rfl⟩ : ∃ k', k = k' + 1 := ⟨k - 1, by have : 0 + 0 + 1 < k + 1 := h3; omega⟩
   rfl
  ·have := chk_l1 l hl h64 (l.length - 1) 1 k (by omega) (by omega) (by omega)
   rw [show ((1 : Nat) : Int) = 1 from rfl] at this
   rw [this]; rfl
 | n + 1, i, k + 1, h2, h3 => by
  unfold halideref4_Check.l0
  have g1 := gk_ok hl i
  rw [List.length_map, if_pos (by omega), if_pos (by omega), rd_kI]
  have ih := chk_l0 h64 n (i + 1) k (by omega) (by omega)
  rw [drop_cons l (0, 0) (show i < l.length by omega)]
  show ((halideref4_Finite.f ((gk l i).1 : Int)).bind fun t134 => (if t134 = true then ((halideref4_Finite.f ((gk l i).2 : Int)).bind fun t136 => (if t136 = true then (halideref4_Check.l0 k (l.map kI) (wrap64 ((i : Int) + 1))) else (some 41))) else (some 41))) = some (if ((!fin (gk l i).1 || !fin (gk l i).2) || bad1 (l.drop (i + 1))) = true then 41 else if bad2 l = true then 42 else 0)
  rw [rFinite_f _ g1.1, rFinite_f _ g1.2, w64 (by omega) (by omega), show (i : Int) + 1 = ((i + 1 : Nat) : Int) by omega, ih]
  simp only [Option.bind_some]
  cases fin (gk l i).1 <;> cases fin (gk l i).2 <;> simp
theorem rCheck_f (h64 : l.length < 1000) : halideref4_Check.f 3000 (l.map kI) = some ((chk l : Nat) : Int) := by
 unfold halideref4_Check.f chk
 rw [List.length_map]
 by_cases c1 : l.length < 2
 ·rw [if_pos (by omega), if_pos (.inl c1)]; rfl
 ·rw [if_neg (by omega)]
  by_cases c2 : 64 < l.length
  ·rw [if_pos (.inr c2), decide_eq_true (by omega)]; rfl
  ·rw [if_neg (by omega), decide_eq_false (by omega)]
   have := chk_l0 l hl h64 l.length 0 2999 (by omega) (by omega)
   rw [show ((0 : Nat) : Int) = 0 from rfl, List.drop_zero] at this
   show halideref4_Check.l0 2999 (l.map kI) 0 = _
   rw [this]
   refine congrArg some ?_
   repeat' split
   all_goals rfl
theorem rCheck_calls (h64 : l.length < 1000) (A : Option Addr) (c : Nat) (hc : l.length ≤ c) (w : World) (hw : Kn w A l) : Calls Try.prog 30 #[.slice A l.length c] w fun e w' => e = .returned (.int .i64 ((chk l : Nat) : Int)) ∧ Drawn0 w w' := by
 have h := halideref4_Check.calls 3000 A c (l.map kI) _ w (by rw [List.length_map]; exact hw) (by rw [List.length_map]; exact hc) (rCheck_f l hl h64)
 rwa [List.length_map] at h
end
end Go.Proofs.Ytkicfaboibfbpaa.A
end
section
set_option linter.unusedVariables false
set_option linter.unusedSimpArgs false
namespace Go.Proofs.Ytkicfaboibfbpaa.A
open Go.RowKit Go.Proofs.YtkicfaboibfbpaaW.PrintWords Go.Proofs.YtkicfaboibfbpaaW.PrintLast Go.Proofs.YtkicfaboibfbpaaW.PrintMore Go.Proofs.Ytkicfaboibfbpaa.PCurveAts
/-- kept within the ends -/
def clp (a b r : Nat) : Nat := if lt r a = true then a else if lt b r = true then b else r
/-- a knot as a value -/
def kV (k : Nat × Nat) : Value := .agg #[.int .u32 (k.1 : Int), .int .u32 (k.2 : Int)]
theorem between_eq (a b : Nat × Nat) (x : Nat) (ha : a.2 < 4294967296) (hb : b.2 < 4294967296) (he : eqv a.2 b.2 = true) (w : World) :
    Calls Try.prog 49 #[kV a, kV b, .int .u32 (x : Int)] w fun e w' => e = .returned (.int .u32 (a.2 : Int)) ∧ Below w.heap.size w w' := by
 have B_0 : Aside0 (Below w.heap.size w w) := ⟨Below.refl _ _⟩
 unfold kV
 go_enter Try.func49, Try.ntmps49
 go_wp2_with (first | ((with_reducible refine gate_dst (N := 3) rfl ?_); refine box_event ?hg (N := 3) ?hd (cs := #[.int .u32 (a.1 : Int), .int .u32 (a.2 : Int)]) (t := 43) ?hr ?_; (case hd => rfl); (case hg => rfl); (case hr => first | (go_simp; done) | (go_simp; rfl)); intro ga hg_ w1 hm_ hb_; have B_1 := Aside0.mk (below_step B_0.out hb_); have M1 := Aside0.mk (hm_); have o0 := (blk_cell M1.out 0).trans rfl; have o1 := (blk_cell M1.out 1).trans rfl; clear hm_ hb_ hg_) | ((with_reducible refine gate_dst (N := 4) rfl ?_); refine box_event ?hg (N := 4) ?hd (cs := #[.int .u32 (b.1 : Int), .int .u32 (b.2 : Int)]) (t := 43) ?hr ?_; (case hd => rfl); (case hg => rfl); (case hr => first | (go_simp; done) | (go_simp; rfl)); intro gb hg_ w2 hm_ hb_; have B_2 := Aside0.mk (below_step B_1.out hb_); have M2 := Aside0.mk (hm_); have M1b := Aside0.mk (blk_below M1.out hb_); clear o0 o1; have o0 := (blk_cell M1b.out 0).trans rfl; have o1 := (blk_cell M1b.out 1).trans rfl; have p0 := (blk_cell M2.out 0).trans rfl; have p1 := (blk_cell M2.out 1).trans rfl; clear hm_ hb_ hg_) | (go_at_call 48; refine (Equal_calls _ _ ha hb _).mono ?_; rw [he]; rintro e _ ⟨rfl, rfl⟩))
 go_ret
 exact ⟨rfl, B_2.out⟩
theorem rbetween_eq (a b : Nat × Nat) (x : Nat) (ha : a.2 < 4294967296) (hb : b.2 < 4294967296) (he : eqv a.2 b.2 = true) (w : World) :
    Calls Try.prog 50 #[kV a, kV b, .int .u32 (x : Int)] w fun e w' => e = .returned (.int .u32 (a.2 : Int)) ∧ Below w.heap.size w w' := by
 have B_0 : Aside0 (Below w.heap.size w w) := ⟨Below.refl _ _⟩
 unfold kV
 go_enter Try.func50, Try.ntmps50
 go_wp2_with (first | ((with_reducible refine gate_dst (N := 3) rfl ?_); refine box_event ?hg (N := 3) ?hd (cs := #[.int .u32 (a.1 : Int), .int .u32 (a.2 : Int)]) (t := 43) ?hr ?_; (case hd => rfl); (case hg => rfl); (case hr => first | (go_simp; done) | (go_simp; rfl)); intro ga hg_ w1 hm_ hb_; have B_1 := Aside0.mk (below_step B_0.out hb_); have M1 := Aside0.mk (hm_); have o0 := (blk_cell M1.out 0).trans rfl; have o1 := (blk_cell M1.out 1).trans rfl; clear hm_ hb_ hg_) | ((with_reducible refine gate_dst (N := 4) rfl ?_); refine box_event ?hg (N := 4) ?hd (cs := #[.int .u32 (b.1 : Int), .int .u32 (b.2 : Int)]) (t := 43) ?hr ?_; (case hd => rfl); (case hg => rfl); (case hr => first | (go_simp; done) | (go_simp; rfl)); intro gb hg_ w2 hm_ hb_; have B_2 := Aside0.mk (below_step B_1.out hb_); have M2 := Aside0.mk (hm_); have M1b := Aside0.mk (blk_below M1.out hb_); clear o0 o1; have o0 := (blk_cell M1b.out 0).trans rfl; have o1 := (blk_cell M1b.out 1).trans rfl; have p0 := (blk_cell M2.out 0).trans rfl; have p1 := (blk_cell M2.out 1).trans rfl; clear hm_ hb_ hg_) | (go_at_call 25; refine (rSame_calls _ _ ha hb _).mono ?_; rw [he]; rintro e _ ⟨rfl, nd, rfl⟩))
 go_ret
 exact ⟨rfl, pw_below_drewN B_2.out _⟩
theorem f64_run (op : BinOp) {x y r : Nat} (h : floatBits op .f64 x y = some r) (w : World) : (binOp op 91 (.float .f64 x) (.float .f64 y)).run Try.prog w = .ok (.float .f64 r) w := run_float_arith w op 91 .f64 x y r h
set_option maxHeartbeats 2000000 in
theorem between_ne (a b : Nat × Nat) (x S r : Nat) (ha : a.1 < 4294967296 ∧ a.2 < 4294967296) (hb : b.1 < 4294967296 ∧ b.2 < 4294967296) (hr : r < 4294967296) (he : eqv a.2 b.2 = false) (hB : Bw a.2 b.2 a.1 b.1 x S r) (w : World) :
    Calls Try.prog 49 #[kV a, kV b, .int .u32 (x : Int)] w fun e w' => e = .returned (.int .u32 ((clp a.2 b.2 r : Nat) : Int)) ∧ Below w.heap.size w w' := by
 obtain ⟨vy0, vy1, vx0, vx1, vx, dY, dX, dx, s, p, v, ey0, ey1, ex0, ex1, ex, edY, edX, es, edx, ep, ev, eb⟩ := hB.ex
 have r1 := f64_run _ edY
 have r2 := f64_run _ edX
 have r3 := f64_run _ es
 have r4 := f64_run _ edx
 have r5 := f64_run _ ep
 have r6 := f64_run _ ev
 have r7 : ∀ w, (convert 91 50 (.float .f64 v)).run Try.prog w = .ok (.float .f32 r) w := fun w => run_convert_float_float w 91 50 .f64 .f32 v r (by rw [Try.underlying91]; rfl) Try.underlying50 eb
 have r8 := fun w => run_bits r w
 clear edY edX es edx ep ev eb hB
 have B_0 : Aside0 (Below w.heap.size w w) := ⟨Below.refl _ _⟩
 unfold kV
 unfold clp
 cases c1 : lt r a.2
 ·rw [if_neg (by decide)]
  cases c2 : lt b.2 r
  ·rw [if_neg (by decide)]
   go_enter Try.func49, Try.ntmps49
   go_wp2_with (first | ((with_reducible refine gate_dst (N := 3) rfl ?_); refine box_event ?hg (N := 3) ?hd (cs := #[.int .u32 (a.1 : Int), .int .u32 (a.2 : Int)]) (t := 43) ?hr ?_; (case hd => rfl); (case hg => rfl); (case hr => first | (go_simp; done) | (go_simp; rfl)); intro ga hg_ w1 hm_ hb_; have B_1 := Aside0.mk (below_step B_0.out hb_); have M1 := Aside0.mk (hm_); have o0 := (blk_cell M1.out 0).trans rfl; have o1 := (blk_cell M1.out 1).trans rfl; clear hm_ hb_ hg_) | ((with_reducible refine gate_dst (N := 4) rfl ?_); refine box_event ?hg (N := 4) ?hd (cs := #[.int .u32 (b.1 : Int), .int .u32 (b.2 : Int)]) (t := 43) ?hr ?_; (case hd => rfl); (case hg => rfl); (case hr => first | (go_simp; done) | (go_simp; rfl)); intro gb hg_ w2 hm_ hb_; have B_2 := Aside0.mk (below_step B_1.out hb_); have M2 := Aside0.mk (hm_); have M1b := Aside0.mk (blk_below M1.out hb_); clear o0 o1; have o0 := (blk_cell M1b.out 0).trans rfl; have o1 := (blk_cell M1b.out 1).trans rfl; have p0 := (blk_cell M2.out 0).trans rfl; have p1 := (blk_cell M2.out 1).trans rfl; clear hm_ hb_ hg_) | (go_at_call 48; refine (Equal_calls _ _ ha.2 hb.2 _).mono ?_; rw [he]; rintro e w3 ⟨rfl, hw3⟩; rw [hw3]; clear hw3 w3))
   go_quiet (first | (go_at_call 63; with_reducible exact Calls.quiet_of_same (val_calls _ _ ey1 _)) | (go_at_call 63; with_reducible exact Calls.quiet_of_same (val_calls _ _ ey0 _)) | (go_at_call 63; with_reducible exact Calls.quiet_of_same (val_calls _ _ ex1 _)) | (go_at_call 63; with_reducible exact Calls.quiet_of_same (val_calls _ _ ex0 _)) | (go_at_call 63; with_reducible exact Calls.quiet_of_same (val_calls _ _ ex _)))
   obtain ⟨w4, hw4⟩ : ∃ w4, w4 = w2.drewN nq := ⟨_, rfl⟩
   rw [← hw4]
   have hbq : Below w2.heap.size w2 w4 := (by rw [hw4]; exact pw_below_drewN (Below.refl _ _) nq)
   have M1b_ := Aside0.mk (blk_below M1b.out hbq)
   have M2_ := Aside0.mk (blk_below M2.out hbq)
   have B_2_ := Aside0.mk (below_step B_2.out hbq)
   clear o0 o1 p0 p1 hbq M1b M2 B_2 hw4
   have M1b := M1b_
   have M2 := M2_
   have B_2 := B_2_
   clear M1b_ M2_ B_2_
   have o0 := (blk_cell M1b.out 0).trans rfl
   have o1 := (blk_cell M1b.out 1).trans rfl
   have p0 := (blk_cell M2.out 0).trans rfl
   have p1 := (blk_cell M2.out 1).trans rfl
   go_wp2
   go_quiet (first | (go_at_call 63; with_reducible exact Calls.quiet_of_same (val_calls _ _ ey1 _)) | (go_at_call 63; with_reducible exact Calls.quiet_of_same (val_calls _ _ ey0 _)) | (go_at_call 63; with_reducible exact Calls.quiet_of_same (val_calls _ _ ex1 _)) | (go_at_call 63; with_reducible exact Calls.quiet_of_same (val_calls _ _ ex0 _)) | (go_at_call 63; with_reducible exact Calls.quiet_of_same (val_calls _ _ ex _)))
   obtain ⟨w5, hw5⟩ : ∃ w5, w5 = w4.drewN nq := ⟨_, rfl⟩
   rw [← hw5]
   have hbq : Below w4.heap.size w4 w5 := (by rw [hw5]; exact pw_below_drewN (Below.refl _ _) nq)
   have M1b_ := Aside0.mk (blk_below M1b.out hbq)
   have M2_ := Aside0.mk (blk_below M2.out hbq)
   have B_2_ := Aside0.mk (below_step B_2.out hbq)
   clear o0 o1 p0 p1 hbq M1b M2 B_2 hw5
   have M1b := M1b_
   have M2 := M2_
   have B_2 := B_2_
   clear M1b_ M2_ B_2_
   have o0 := (blk_cell M1b.out 0).trans rfl
   have o1 := (blk_cell M1b.out 1).trans rfl
   have p0 := (blk_cell M2.out 0).trans rfl
   have p1 := (blk_cell M2.out 1).trans rfl
   go_wp2_with (first | ((with_reducible refine gate_dst (N := 45) rfl ?_); refine Kd.event_run rfl (v := .float .f32 r) (w1 := w5) ?hr ?_; (case hr => first | (go_simp; done) | (go_simp; rfl))) | ((with_reducible refine gate_dst (N := 46) rfl ?_); refine Kd.event_run rfl (v := .int .u32 (r : Int)) (w1 := w5) ?hr ?_; (case hr => first | (go_simp; done) | (go_simp; rfl))) | (go_at_call 45; with_reducible refine (Less_calls r a.2 hr ha.2 _).mono ?_; rw [c1]; rintro e _ ⟨rfl, rfl⟩) | (go_at_call 45; with_reducible refine (Less_calls b.2 r hb.2 hr _).mono ?_; rw [c2]; rintro e _ ⟨rfl, rfl⟩))
   go_ret
   exact ⟨rfl, by repeat (first | exact B_2.out | apply pw_below_drewN)⟩
  ·rw [if_pos rfl]
   go_enter Try.func49, Try.ntmps49
   go_wp2_with (first | ((with_reducible refine gate_dst (N := 3) rfl ?_); refine box_event ?hg (N := 3) ?hd (cs := #[.int .u32 (a.1 : Int), .int .u32 (a.2 : Int)]) (t := 43) ?hr ?_; (case hd => rfl); (case hg => rfl); (case hr => first | (go_simp; done) | (go_simp; rfl)); intro ga hg_ w1 hm_ hb_; have B_1 := Aside0.mk (below_step B_0.out hb_); have M1 := Aside0.mk (hm_); have o0 := (blk_cell M1.out 0).trans rfl; have o1 := (blk_cell M1.out 1).trans rfl; clear hm_ hb_ hg_) | ((with_reducible refine gate_dst (N := 4) rfl ?_); refine box_event ?hg (N := 4) ?hd (cs := #[.int .u32 (b.1 : Int), .int .u32 (b.2 : Int)]) (t := 43) ?hr ?_; (case hd => rfl); (case hg => rfl); (case hr => first | (go_simp; done) | (go_simp; rfl)); intro gb hg_ w2 hm_ hb_; have B_2 := Aside0.mk (below_step B_1.out hb_); have M2 := Aside0.mk (hm_); have M1b := Aside0.mk (blk_below M1.out hb_); clear o0 o1; have o0 := (blk_cell M1b.out 0).trans rfl; have o1 := (blk_cell M1b.out 1).trans rfl; have p0 := (blk_cell M2.out 0).trans rfl; have p1 := (blk_cell M2.out 1).trans rfl; clear hm_ hb_ hg_) | (go_at_call 48; refine (Equal_calls _ _ ha.2 hb.2 _).mono ?_; rw [he]; rintro e w3 ⟨rfl, hw3⟩; rw [hw3]; clear hw3 w3))
   go_quiet (first | (go_at_call 63; with_reducible exact Calls.quiet_of_same (val_calls _ _ ey1 _)) | (go_at_call 63; with_reducible exact Calls.quiet_of_same (val_calls _ _ ey0 _)) | (go_at_call 63; with_reducible exact Calls.quiet_of_same (val_calls _ _ ex1 _)) | (go_at_call 63; with_reducible exact Calls.quiet_of_same (val_calls _ _ ex0 _)) | (go_at_call 63; with_reducible exact Calls.quiet_of_same (val_calls _ _ ex _)))
   obtain ⟨w4, hw4⟩ : ∃ w4, w4 = w2.drewN nq := ⟨_, rfl⟩
   rw [← hw4]
   have hbq : Below w2.heap.size w2 w4 := (by rw [hw4]; exact pw_below_drewN (Below.refl _ _) nq)
   have M1b_ := Aside0.mk (blk_below M1b.out hbq)
   have M2_ := Aside0.mk (blk_below M2.out hbq)
   have B_2_ := Aside0.mk (below_step B_2.out hbq)
   clear o0 o1 p0 p1 hbq M1b M2 B_2 hw4
   have M1b := M1b_
   have M2 := M2_
   have B_2 := B_2_
   clear M1b_ M2_ B_2_
   have o0 := (blk_cell M1b.out 0).trans rfl
   have o1 := (blk_cell M1b.out 1).trans rfl
   have p0 := (blk_cell M2.out 0).trans rfl
   have p1 := (blk_cell M2.out 1).trans rfl
   go_wp2
   go_quiet (first | (go_at_call 63; with_reducible exact Calls.quiet_of_same (val_calls _ _ ey1 _)) | (go_at_call 63; with_reducible exact Calls.quiet_of_same (val_calls _ _ ey0 _)) | (go_at_call 63; with_reducible exact Calls.quiet_of_same (val_calls _ _ ex1 _)) | (go_at_call 63; with_reducible exact Calls.quiet_of_same (val_calls _ _ ex0 _)) | (go_at_call 63; with_reducible exact Calls.quiet_of_same (val_calls _ _ ex _)))
   obtain ⟨w5, hw5⟩ : ∃ w5, w5 = w4.drewN nq := ⟨_, rfl⟩
   rw [← hw5]
   have hbq : Below w4.heap.size w4 w5 := (by rw [hw5]; exact pw_below_drewN (Below.refl _ _) nq)
   have M1b_ := Aside0.mk (blk_below M1b.out hbq)
   have M2_ := Aside0.mk (blk_below M2.out hbq)
   have B_2_ := Aside0.mk (below_step B_2.out hbq)
   clear o0 o1 p0 p1 hbq M1b M2 B_2 hw5
   have M1b := M1b_
   have M2 := M2_
   have B_2 := B_2_
   clear M1b_ M2_ B_2_
   have o0 := (blk_cell M1b.out 0).trans rfl
   have o1 := (blk_cell M1b.out 1).trans rfl
   have p0 := (blk_cell M2.out 0).trans rfl
   have p1 := (blk_cell M2.out 1).trans rfl
   go_wp2_with (first | ((with_reducible refine gate_dst (N := 45) rfl ?_); refine Kd.event_run rfl (v := .float .f32 r) (w1 := w5) ?hr ?_; (case hr => first | (go_simp; done) | (go_simp; rfl))) | ((with_reducible refine gate_dst (N := 46) rfl ?_); refine Kd.event_run rfl (v := .int .u32 (r : Int)) (w1 := w5) ?hr ?_; (case hr => first | (go_simp; done) | (go_simp; rfl))) | (go_at_call 45; with_reducible refine (Less_calls r a.2 hr ha.2 _).mono ?_; rw [c1]; rintro e _ ⟨rfl, rfl⟩) | (go_at_call 45; with_reducible refine (Less_calls b.2 r hb.2 hr _).mono ?_; rw [c2]; rintro e _ ⟨rfl, rfl⟩))
   go_ret
   exact ⟨rfl, by repeat (first | exact B_2.out | apply pw_below_drewN)⟩
 ·rw [if_pos rfl]
  go_enter Try.func49, Try.ntmps49
  go_wp2_with (first | ((with_reducible refine gate_dst (N := 3) rfl ?_); refine box_event ?hg (N := 3) ?hd (cs := #[.int .u32 (a.1 : Int), .int .u32 (a.2 : Int)]) (t := 43) ?hr ?_; (case hd => rfl); (case hg => rfl); (case hr => first | (go_simp; done) | (go_simp; rfl)); intro ga hg_ w1 hm_ hb_; have B_1 := Aside0.mk (below_step B_0.out hb_); have M1 := Aside0.mk (hm_); have o0 := (blk_cell M1.out 0).trans rfl; have o1 := (blk_cell M1.out 1).trans rfl; clear hm_ hb_ hg_) | ((with_reducible refine gate_dst (N := 4) rfl ?_); refine box_event ?hg (N := 4) ?hd (cs := #[.int .u32 (b.1 : Int), .int .u32 (b.2 : Int)]) (t := 43) ?hr ?_; (case hd => rfl); (case hg => rfl); (case hr => first | (go_simp; done) | (go_simp; rfl)); intro gb hg_ w2 hm_ hb_; have B_2 := Aside0.mk (below_step B_1.out hb_); have M2 := Aside0.mk (hm_); have M1b := Aside0.mk (blk_below M1.out hb_); clear o0 o1; have o0 := (blk_cell M1b.out 0).trans rfl; have o1 := (blk_cell M1b.out 1).trans rfl; have p0 := (blk_cell M2.out 0).trans rfl; have p1 := (blk_cell M2.out 1).trans rfl; clear hm_ hb_ hg_) | (go_at_call 48; refine (Equal_calls _ _ ha.2 hb.2 _).mono ?_; rw [he]; rintro e w3 ⟨rfl, hw3⟩; rw [hw3]; clear hw3 w3))
  go_quiet (first | (go_at_call 63; with_reducible exact Calls.quiet_of_same (val_calls _ _ ey1 _)) | (go_at_call 63; with_reducible exact Calls.quiet_of_same (val_calls _ _ ey0 _)) | (go_at_call 63; with_reducible exact Calls.quiet_of_same (val_calls _ _ ex1 _)) | (go_at_call 63; with_reducible exact Calls.quiet_of_same (val_calls _ _ ex0 _)) | (go_at_call 63; with_reducible exact Calls.quiet_of_same (val_calls _ _ ex _)))
  obtain ⟨w4, hw4⟩ : ∃ w4, w4 = w2.drewN nq := ⟨_, rfl⟩
  rw [← hw4]
  have hbq : Below w2.heap.size w2 w4 := (by rw [hw4]; exact pw_below_drewN (Below.refl _ _) nq)
  have M1b_ := Aside0.mk (blk_below M1b.out hbq)
  have M2_ := Aside0.mk (blk_below M2.out hbq)
  have B_2_ := Aside0.mk (below_step B_2.out hbq)
  clear o0 o1 p0 p1 hbq M1b M2 B_2 hw4
  have M1b := M1b_
  have M2 := M2_
  have B_2 := B_2_
  clear M1b_ M2_ B_2_
  have o0 := (blk_cell M1b.out 0).trans rfl
  have o1 := (blk_cell M1b.out 1).trans rfl
  have p0 := (blk_cell M2.out 0).trans rfl
  have p1 := (blk_cell M2.out 1).trans rfl
  go_wp2
  go_quiet (first | (go_at_call 63; with_reducible exact Calls.quiet_of_same (val_calls _ _ ey1 _)) | (go_at_call 63; with_reducible exact Calls.quiet_of_same (val_calls _ _ ey0 _)) | (go_at_call 63; with_reducible exact Calls.quiet_of_same (val_calls _ _ ex1 _)) | (go_at_call 63; with_reducible exact Calls.quiet_of_same (val_calls _ _ ex0 _)) | (go_at_call 63; with_reducible exact Calls.quiet_of_same (val_calls _ _ ex _)))
  obtain ⟨w5, hw5⟩ : ∃ w5, w5 = w4.drewN nq := ⟨_, rfl⟩
  rw [← hw5]
  have hbq : Below w4.heap.size w4 w5 := (by rw [hw5]; exact pw_below_drewN (Below.refl _ _) nq)
  have M1b_ := Aside0.mk (blk_below M1b.out hbq)
  have M2_ := Aside0.mk (blk_below M2.out hbq)
  have B_2_ := Aside0.mk (below_step B_2.out hbq)
  clear o0 o1 p0 p1 hbq M1b M2 B_2 hw5
  have M1b := M1b_
  have M2 := M2_
  have B_2 := B_2_
  clear M1b_ M2_ B_2_
  have o0 := (blk_cell M1b.out 0).trans rfl
  have o1 := (blk_cell M1b.out 1).trans rfl
  have p0 := (blk_cell M2.out 0).trans rfl
  have p1 := (blk_cell M2.out 1).trans rfl
  go_wp2_with (first | ((with_reducible refine gate_dst (N := 45) rfl ?_); refine Kd.event_run rfl (v := .float .f32 r) (w1 := w5) ?hr ?_; (case hr => first | (go_simp; done) | (go_simp; rfl))) | ((with_reducible refine gate_dst (N := 46) rfl ?_); refine Kd.event_run rfl (v := .int .u32 (r : Int)) (w1 := w5) ?hr ?_; (case hr => first | (go_simp; done) | (go_simp; rfl))) | (go_at_call 45; with_reducible refine (Less_calls r a.2 hr ha.2 _).mono ?_; rw [c1]; rintro e _ ⟨rfl, rfl⟩))
  go_ret
  exact ⟨rfl, by repeat (first | exact B_2.out | apply pw_below_drewN)⟩
end Go.Proofs.Ytkicfaboibfbpaa.A
end
section
set_option linter.unusedVariables false
set_option linter.unusedSimpArgs false
namespace Go.Proofs.Ytkicfaboibfbpaa.A
open Go.RowKit Go.Proofs.YtkicfaboibfbpaaW.PrintWords Go.Proofs.YtkicfaboibfbpaaW.PrintLast Go.Proofs.YtkicfaboibfbpaaW.PrintMore Go.Proofs.Ytkicfaboibfbpaa.PCurveAts
set_option maxHeartbeats 2000000 in
theorem rbetween_ne (a b : Nat × Nat) (x S r : Nat) (ha : a.1 < 4294967296 ∧ a.2 < 4294967296) (hb : b.1 < 4294967296 ∧ b.2 < 4294967296) (hr : r < 4294967296) (he : eqv a.2 b.2 = false) (hB : Bw a.2 b.2 a.1 b.1 x S r) (w : World) :
    Calls Try.prog 50 #[kV a, kV b, .int .u32 (x : Int)] w fun e w' => e = .returned (.int .u32 ((clp a.2 b.2 r : Nat) : Int)) ∧ Below w.heap.size w w' := by
 obtain ⟨vy0, vy1, vx0, vx1, vx, dY, dX, dx, s, p, v, ey0, ey1, ex0, ex1, ex, edY, edX, es, edx, ep, ev, eb⟩ := hB.ex
 have r1 := f64_run _ edY
 have r2 := f64_run _ edX
 have r3 := f64_run _ es
 have r4 := f64_run _ edx
 have r5 := f64_run _ ep
 have r6 := f64_run _ ev
 have r7 : ∀ w, (convert 91 50 (.float .f64 v)).run Try.prog w = .ok (.float .f32 r) w := fun w => run_convert_float_float w 91 50 .f64 .f32 v r (by rw [Try.underlying91]; rfl) Try.underlying50 eb
 have r8 := fun w => run_bits r w
 clear edY edX es edx ep ev eb hB
 have B_0 : Aside0 (Below w.heap.size w w) := ⟨Below.refl _ _⟩
 unfold kV
 unfold clp
 cases c1 : lt r a.2
 ·rw [if_neg (by decide)]
  cases c2 : lt b.2 r
  ·rw [if_neg (by decide)]
   go_enter Try.func50, Try.ntmps50
   go_wp2_with (first | ((with_reducible refine gate_dst (N := 3) rfl ?_); refine box_event ?hg (N := 3) ?hd (cs := #[.int .u32 (a.1 : Int), .int .u32 (a.2 : Int)]) (t := 43) ?hr ?_; (case hd => rfl); (case hg => rfl); (case hr => first | (go_simp; done) | (go_simp; rfl)); intro ga hg_ w1 hm_ hb_; have B_1 := Aside0.mk (below_step B_0.out hb_); have M1 := Aside0.mk (hm_); have o0 := (blk_cell M1.out 0).trans rfl; have o1 := (blk_cell M1.out 1).trans rfl; clear hm_ hb_ hg_) | ((with_reducible refine gate_dst (N := 4) rfl ?_); refine box_event ?hg (N := 4) ?hd (cs := #[.int .u32 (b.1 : Int), .int .u32 (b.2 : Int)]) (t := 43) ?hr ?_; (case hd => rfl); (case hg => rfl); (case hr => first | (go_simp; done) | (go_simp; rfl)); intro gb hg_ w2 hm_ hb_; have B_2 := Aside0.mk (below_step B_1.out hb_); have M2 := Aside0.mk (hm_); have M1b := Aside0.mk (blk_below M1.out hb_); clear o0 o1; have o0 := (blk_cell M1b.out 0).trans rfl; have o1 := (blk_cell M1b.out 1).trans rfl; have p0 := (blk_cell M2.out 0).trans rfl; have p1 := (blk_cell M2.out 1).trans rfl; clear hm_ hb_ hg_) | (go_at_call 25; refine (rSame_calls _ _ ha.2 hb.2 _).mono ?_; rw [he]; rintro e w3 ⟨rfl, nd, hw3⟩; have hbq : Below w2.heap.size w2 w3 := (by rw [hw3]; exact pw_below_drewN (Below.refl _ _) nd); have M1b_ := Aside0.mk (blk_below M1b.out hbq); have M2_ := Aside0.mk (blk_below M2.out hbq); have B_2_ := Aside0.mk (below_step B_2.out hbq); clear o0 o1 p0 p1 hbq M1b M2 B_2 hw3; have M1b := M1b_; have M2 := M2_; have B_2 := B_2_; clear M1b_ M2_ B_2_; have o0 := (blk_cell M1b.out 0).trans rfl; have o1 := (blk_cell M1b.out 1).trans rfl; have p0 := (blk_cell M2.out 0).trans rfl; have p1 := (blk_cell M2.out 1).trans rfl))
   go_quiet (first | (go_at_call 65; with_reducible exact Calls.quiet_of_same (rval_calls _ _ ey1 _)) | (go_at_call 65; with_reducible exact Calls.quiet_of_same (rval_calls _ _ ey0 _)) | (go_at_call 65; with_reducible exact Calls.quiet_of_same (rval_calls _ _ ex1 _)) | (go_at_call 65; with_reducible exact Calls.quiet_of_same (rval_calls _ _ ex0 _)) | (go_at_call 65; with_reducible exact Calls.quiet_of_same (rval_calls _ _ ex _)))
   obtain ⟨w4, hw4⟩ : ∃ w4, w4 = w3.drewN nq := ⟨_, rfl⟩
   rw [← hw4]
   have hbq : Below w3.heap.size w3 w4 := (by rw [hw4]; exact pw_below_drewN (Below.refl _ _) nq)
   have M1b_ := Aside0.mk (blk_below M1b.out hbq)
   have M2_ := Aside0.mk (blk_below M2.out hbq)
   have B_2_ := Aside0.mk (below_step B_2.out hbq)
   clear o0 o1 p0 p1 hbq M1b M2 B_2 hw4
   have M1b := M1b_
   have M2 := M2_
   have B_2 := B_2_
   clear M1b_ M2_ B_2_
   have o0 := (blk_cell M1b.out 0).trans rfl
   have o1 := (blk_cell M1b.out 1).trans rfl
   have p0 := (blk_cell M2.out 0).trans rfl
   have p1 := (blk_cell M2.out 1).trans rfl
   go_wp2
   go_quiet (first | (go_at_call 65; with_reducible exact Calls.quiet_of_same (rval_calls _ _ ey1 _)) | (go_at_call 65; with_reducible exact Calls.quiet_of_same (rval_calls _ _ ey0 _)) | (go_at_call 65; with_reducible exact Calls.quiet_of_same (rval_calls _ _ ex1 _)) | (go_at_call 65; with_reducible exact Calls.quiet_of_same (rval_calls _ _ ex0 _)) | (go_at_call 65; with_reducible exact Calls.quiet_of_same (rval_calls _ _ ex _)))
   obtain ⟨w5, hw5⟩ : ∃ w5, w5 = w4.drewN nq := ⟨_, rfl⟩
   rw [← hw5]
   have hbq : Below w4.heap.size w4 w5 := (by rw [hw5]; exact pw_below_drewN (Below.refl _ _) nq)
   have M1b_ := Aside0.mk (blk_below M1b.out hbq)
   have M2_ := Aside0.mk (blk_below M2.out hbq)
   have B_2_ := Aside0.mk (below_step B_2.out hbq)
   clear o0 o1 p0 p1 hbq M1b M2 B_2 hw5
   have M1b := M1b_
   have M2 := M2_
   have B_2 := B_2_
   clear M1b_ M2_ B_2_
   have o0 := (blk_cell M1b.out 0).trans rfl
   have o1 := (blk_cell M1b.out 1).trans rfl
   have p0 := (blk_cell M2.out 0).trans rfl
   have p1 := (blk_cell M2.out 1).trans rfl
   go_wp2_with (first | (go_at_call 65; with_reducible refine (rval_calls _ _ ey0 _).mono ?_; rintro e w6 ⟨rfl, hw6⟩; rw [hw6]; clear hw6 w6) | ((with_reducible refine gate_dst (N := 44) rfl ?_); refine Kd.event_run rfl (v := .float .f64 p) (w1 := w5) ?hr ?_; (case hr => first | (go_simp; done) | (go_simp; rfl))) | ((with_reducible refine gate_dst (N := 45) rfl ?_); refine Kd.event_run rfl (v := .float .f64 v) (w1 := w5) ?hr ?_; (case hr => first | (go_simp; done) | (go_simp; rfl))) | ((with_reducible refine gate_dst (N := 47) rfl ?_); refine Kd.event_run rfl (v := .float .f32 r) (w1 := w5) ?hr ?_; (case hr => first | (go_simp; done) | (go_simp; rfl))) | ((with_reducible refine gate_dst (N := 48) rfl ?_); refine Kd.event_run rfl (v := .int .u32 (r : Int)) (w1 := w5) ?hr ?_; (case hr => first | (go_simp; done) | (go_simp; rfl))) | (go_at_call 38; with_reducible refine (rBelow_calls r a.2 hr ha.2 _).mono ?_; rw [c1]; rintro e _ ⟨rfl, nd, rfl⟩) | (go_at_call 38; with_reducible refine (rBelow_calls b.2 r hb.2 hr _).mono ?_; rw [c2]; rintro e _ ⟨rfl, nd, rfl⟩))
   go_ret
   exact ⟨rfl, by repeat (first | exact B_2.out | apply pw_below_drewN)⟩
  ·rw [if_pos rfl]
   go_enter Try.func50, Try.ntmps50
   go_wp2_with (first | ((with_reducible refine gate_dst (N := 3) rfl ?_); refine box_event ?hg (N := 3) ?hd (cs := #[.int .u32 (a.1 : Int), .int .u32 (a.2 : Int)]) (t := 43) ?hr ?_; (case hd => rfl); (case hg => rfl); (case hr => first | (go_simp; done) | (go_simp; rfl)); intro ga hg_ w1 hm_ hb_; have B_1 := Aside0.mk (below_step B_0.out hb_); have M1 := Aside0.mk (hm_); have o0 := (blk_cell M1.out 0).trans rfl; have o1 := (blk_cell M1.out 1).trans rfl; clear hm_ hb_ hg_) | ((with_reducible refine gate_dst (N := 4) rfl ?_); refine box_event ?hg (N := 4) ?hd (cs := #[.int .u32 (b.1 : Int), .int .u32 (b.2 : Int)]) (t := 43) ?hr ?_; (case hd => rfl); (case hg => rfl); (case hr => first | (go_simp; done) | (go_simp; rfl)); intro gb hg_ w2 hm_ hb_; have B_2 := Aside0.mk (below_step B_1.out hb_); have M2 := Aside0.mk (hm_); have M1b := Aside0.mk (blk_below M1.out hb_); clear o0 o1; have o0 := (blk_cell M1b.out 0).trans rfl; have o1 := (blk_cell M1b.out 1).trans rfl; have p0 := (blk_cell M2.out 0).trans rfl; have p1 := (blk_cell M2.out 1).trans rfl; clear hm_ hb_ hg_) | (go_at_call 25; refine (rSame_calls _ _ ha.2 hb.2 _).mono ?_; rw [he]; rintro e w3 ⟨rfl, nd, hw3⟩; have hbq : Below w2.heap.size w2 w3 := (by rw [hw3]; exact pw_below_drewN (Below.refl _ _) nd); have M1b_ := Aside0.mk (blk_below M1b.out hbq); have M2_ := Aside0.mk (blk_below M2.out hbq); have B_2_ := Aside0.mk (below_step B_2.out hbq); clear o0 o1 p0 p1 hbq M1b M2 B_2 hw3; have M1b := M1b_; have M2 := M2_; have B_2 := B_2_; clear M1b_ M2_ B_2_; have o0 := (blk_cell M1b.out 0).trans rfl; have o1 := (blk_cell M1b.out 1).trans rfl; have p0 := (blk_cell M2.out 0).trans rfl; have p1 := (blk_cell M2.out 1).trans rfl))
   go_quiet (first | (go_at_call 65; with_reducible exact Calls.quiet_of_same (rval_calls _ _ ey1 _)) | (go_at_call 65; with_reducible exact Calls.quiet_of_same (rval_calls _ _ ey0 _)) | (go_at_call 65; with_reducible exact Calls.quiet_of_same (rval_calls _ _ ex1 _)) | (go_at_call 65; with_reducible exact Calls.quiet_of_same (rval_calls _ _ ex0 _)) | (go_at_call 65; with_reducible exact Calls.quiet_of_same (rval_calls _ _ ex _)))
   obtain ⟨w4, hw4⟩ : ∃ w4, w4 = w3.drewN nq := ⟨_, rfl⟩
   rw [← hw4]
   have hbq : Below w3.heap.size w3 w4 := (by rw [hw4]; exact pw_below_drewN (Below.refl _ _) nq)
   have M1b_ := Aside0.mk (blk_below M1b.out hbq)
   have M2_ := Aside0.mk (blk_below M2.out hbq)
   have B_2_ := Aside0.mk (below_step B_2.out hbq)
   clear o0 o1 p0 p1 hbq M1b M2 B_2 hw4
   have M1b := M1b_
   have M2 := M2_
   have B_2 := B_2_
   clear M1b_ M2_ B_2_
   have o0 := (blk_cell M1b.out 0).trans rfl
   have o1 := (blk_cell M1b.out 1).trans rfl
   have p0 := (blk_cell M2.out 0).trans rfl
   have p1 := (blk_cell M2.out 1).trans rfl
   go_wp2
   go_quiet (first | (go_at_call 65; with_reducible exact Calls.quiet_of_same (rval_calls _ _ ey1 _)) | (go_at_call 65; with_reducible exact Calls.quiet_of_same (rval_calls _ _ ey0 _)) | (go_at_call 65; with_reducible exact Calls.quiet_of_same (rval_calls _ _ ex1 _)) | (go_at_call 65; with_reducible exact Calls.quiet_of_same (rval_calls _ _ ex0 _)) | (go_at_call 65; with_reducible exact Calls.quiet_of_same (rval_calls _ _ ex _)))
   obtain ⟨w5, hw5⟩ : ∃ w5, w5 = w4.drewN nq := ⟨_, rfl⟩
   rw [← hw5]
   have hbq : Below w4.heap.size w4 w5 := (by rw [hw5]; exact pw_below_drewN (Below.refl _ _) nq)
   have M1b_ := Aside0.mk (blk_below M1b.out hbq)
   have M2_ := Aside0.mk (blk_below M2.out hbq)
   have B_2_ := Aside0.mk (below_step B_2.out hbq)
   clear o0 o1 p0 p1 hbq M1b M2 B_2 hw5
   have M1b := M1b_
   have M2 := M2_
   have B_2 := B_2_
   clear M1b_ M2_ B_2_
   have o0 := (blk_cell M1b.out 0).trans rfl
   have o1 := (blk_cell M1b.out 1).trans rfl
   have p0 := (blk_cell M2.out 0).trans rfl
   have p1 := (blk_cell M2.out 1).trans rfl
   go_wp2_with (first | (go_at_call 65; with_reducible refine (rval_calls _ _ ey0 _).mono ?_; rintro e w6 ⟨rfl, hw6⟩; rw [hw6]; clear hw6 w6) | ((with_reducible refine gate_dst (N := 44) rfl ?_); refine Kd.event_run rfl (v := .float .f64 p) (w1 := w5) ?hr ?_; (case hr => first | (go_simp; done) | (go_simp; rfl))) | ((with_reducible refine gate_dst (N := 45) rfl ?_); refine Kd.event_run rfl (v := .float .f64 v) (w1 := w5) ?hr ?_; (case hr => first | (go_simp; done) | (go_simp; rfl))) | ((with_reducible refine gate_dst (N := 47) rfl ?_); refine Kd.event_run rfl (v := .float .f32 r) (w1 := w5) ?hr ?_; (case hr => first | (go_simp; done) | (go_simp; rfl))) | ((with_reducible refine gate_dst (N := 48) rfl ?_); refine Kd.event_run rfl (v := .int .u32 (r : Int)) (w1 := w5) ?hr ?_; (case hr => first | (go_simp; done) | (go_simp; rfl))) | (go_at_call 38; with_reducible refine (rBelow_calls r a.2 hr ha.2 _).mono ?_; rw [c1]; rintro e _ ⟨rfl, nd, rfl⟩) | (go_at_call 38; with_reducible refine (rBelow_calls b.2 r hb.2 hr _).mono ?_; rw [c2]; rintro e _ ⟨rfl, nd, rfl⟩))
   go_ret
   exact ⟨rfl, by repeat (first | exact B_2.out | apply pw_below_drewN)⟩
 ·rw [if_pos rfl]
  go_enter Try.func50, Try.ntmps50
  go_wp2_with (first | ((with_reducible refine gate_dst (N := 3) rfl ?_); refine box_event ?hg (N := 3) ?hd (cs := #[.int .u32 (a.1 : Int), .int .u32 (a.2 : Int)]) (t := 43) ?hr ?_; (case hd => rfl); (case hg => rfl); (case hr => first | (go_simp; done) | (go_simp; rfl)); intro ga hg_ w1 hm_ hb_; have B_1 := Aside0.mk (below_step B_0.out hb_); have M1 := Aside0.mk (hm_); have o0 := (blk_cell M1.out 0).trans rfl; have o1 := (blk_cell M1.out 1).trans rfl; clear hm_ hb_ hg_) | ((with_reducible refine gate_dst (N := 4) rfl ?_); refine box_event ?hg (N := 4) ?hd (cs := #[.int .u32 (b.1 : Int), .int .u32 (b.2 : Int)]) (t := 43) ?hr ?_; (case hd => rfl); (case hg => rfl); (case hr => first | (go_simp; done) | (go_simp; rfl)); intro gb hg_ w2 hm_ hb_; have B_2 := Aside0.mk (below_step B_1.out hb_); have M2 := Aside0.mk (hm_); have M1b := Aside0.mk (blk_below M1.out hb_); clear o0 o1; have o0 := (blk_cell M1b.out 0).trans rfl; have o1 := (blk_cell M1b.out 1).trans rfl; have p0 := (blk_cell M2.out 0).trans rfl; have p1 := (blk_cell M2.out 1).trans rfl; clear hm_ hb_ hg_) | (go_at_call 25; refine (rSame_calls _ _ ha.2 hb.2 _).mono ?_; rw [he]; rintro e w3 ⟨rfl, nd, hw3⟩; have hbq : Below w2.heap.size w2 w3 := (by rw [hw3]; exact pw_below_drewN (Below.refl _ _) nd); have M1b_ := Aside0.mk (blk_below M1b.out hbq); have M2_ := Aside0.mk (blk_below M2.out hbq); have B_2_ := Aside0.mk (below_step B_2.out hbq); clear o0 o1 p0 p1 hbq M1b M2 B_2 hw3; have M1b := M1b_; have M2 := M2_; have B_2 := B_2_; clear M1b_ M2_ B_2_; have o0 := (blk_cell M1b.out 0).trans rfl; have o1 := (blk_cell M1b.out 1).trans rfl; have p0 := (blk_cell M2.out 0).trans rfl; have p1 := (blk_cell M2.out 1).trans rfl))
  go_quiet (first | (go_at_call 65; with_reducible exact Calls.quiet_of_same (rval_calls _ _ ey1 _)) | (go_at_call 65; with_reducible exact Calls.quiet_of_same (rval_calls _ _ ey0 _)) | (go_at_call 65; with_reducible exact Calls.quiet_of_same (rval_calls _ _ ex1 _)) | (go_at_call 65; with_reducible exact Calls.quiet_of_same (rval_calls _ _ ex0 _)) | (go_at_call 65; with_reducible exact Calls.quiet_of_same (rval_calls _ _ ex _)))
  obtain ⟨w4, hw4⟩ : ∃ w4, w4 = w3.drewN nq := ⟨_, rfl⟩
  rw [← hw4]
  have hbq : Below w3.heap.size w3 w4 := (by rw [hw4]; exact pw_below_drewN (Below.refl _ _) nq)
  have M1b_ := Aside0.mk (blk_below M1b.out hbq)
  have M2_ := Aside0.mk (blk_below M2.out hbq)
  have B_2_ := Aside0.mk (below_step B_2.out hbq)
  clear o0 o1 p0 p1 hbq M1b M2 B_2 hw4
  have M1b := M1b_
  have M2 := M2_
  have B_2 := B_2_
  clear M1b_ M2_ B_2_
  have o0 := (blk_cell M1b.out 0).trans rfl
  have o1 := (blk_cell M1b.out 1).trans rfl
  have p0 := (blk_cell M2.out 0).trans rfl
  have p1 := (blk_cell M2.out 1).trans rfl
  go_wp2
  go_quiet (first | (go_at_call 65; with_reducible exact Calls.quiet_of_same (rval_calls _ _ ey1 _)) | (go_at_call 65; with_reducible exact Calls.quiet_of_same (rval_calls _ _ ey0 _)) | (go_at_call 65; with_reducible exact Calls.quiet_of_same (rval_calls _ _ ex1 _)) | (go_at_call 65; with_reducible exact Calls.quiet_of_same (rval_calls _ _ ex0 _)) | (go_at_call 65; with_reducible exact Calls.quiet_of_same (rval_calls _ _ ex _)))
  obtain ⟨w5, hw5⟩ : ∃ w5, w5 = w4.drewN nq := ⟨_, rfl⟩
  rw [← hw5]
  have hbq : Below w4.heap.size w4 w5 := (by rw [hw5]; exact pw_below_drewN (Below.refl _ _) nq)
  have M1b_ := Aside0.mk (blk_below M1b.out hbq)
  have M2_ := Aside0.mk (blk_below M2.out hbq)
  have B_2_ := Aside0.mk (below_step B_2.out hbq)
  clear o0 o1 p0 p1 hbq M1b M2 B_2 hw5
  have M1b := M1b_
  have M2 := M2_
  have B_2 := B_2_
  clear M1b_ M2_ B_2_
  have o0 := (blk_cell M1b.out 0).trans rfl
  have o1 := (blk_cell M1b.out 1).trans rfl
  have p0 := (blk_cell M2.out 0).trans rfl
  have p1 := (blk_cell M2.out 1).trans rfl
  go_wp2_with (first | (go_at_call 65; with_reducible refine (rval_calls _ _ ey0 _).mono ?_; rintro e w6 ⟨rfl, hw6⟩; rw [hw6]; clear hw6 w6) | ((with_reducible refine gate_dst (N := 44) rfl ?_); refine Kd.event_run rfl (v := .float .f64 p) (w1 := w5) ?hr ?_; (case hr => first | (go_simp; done) | (go_simp; rfl))) | ((with_reducible refine gate_dst (N := 45) rfl ?_); refine Kd.event_run rfl (v := .float .f64 v) (w1 := w5) ?hr ?_; (case hr => first | (go_simp; done) | (go_simp; rfl))) | ((with_reducible refine gate_dst (N := 47) rfl ?_); refine Kd.event_run rfl (v := .float .f32 r) (w1 := w5) ?hr ?_; (case hr => first | (go_simp; done) | (go_simp; rfl))) | ((with_reducible refine gate_dst (N := 48) rfl ?_); refine Kd.event_run rfl (v := .int .u32 (r : Int)) (w1 := w5) ?hr ?_; (case hr => first | (go_simp; done) | (go_simp; rfl))) | (go_at_call 38; with_reducible refine (rBelow_calls r a.2 hr ha.2 _).mono ?_; rw [c1]; rintro e _ ⟨rfl, nd, rfl⟩))
  go_ret
  exact ⟨rfl, by repeat (first | exact B_2.out | apply pw_below_drewN)⟩
end Go.Proofs.Ytkicfaboibfbpaa.A
end
section
set_option linter.unusedVariables false
set_option linter.unusedSimpArgs false
namespace Go.Proofs.Ytkicfaboibfbpaa.A
open Go.RowKit Go.Proofs.YtkicfaboibfbpaaW.PrintWords Go.Proofs.YtkicfaboibfbpaaW.PrintLast Go.Proofs.YtkicfaboibfbpaaW.PrintMore Go.Proofs.Ytkicfaboibfbpaa.PCurveAts
/-- where a search ends -/
def Srch (p : Nat → Bool) (n r : Nat) : Prop := r ≤ n ∧ (r = 0 ∨ p (r - 1) = false) ∧ (r = n ∨ p r = true)
set_option maxHeartbeats 4000000 in
set_option maxRecDepth 1000000 in
theorem Search_calls (g : Nat) (cb : Array Value) (n : Nat) (p : Nat → Bool) (w : World) (eg : ∀ args w, (callFunc g args).run Try.prog w = .ok (.enter g args) w) (hsz : n < 4611686018427387904)
    (hf : ∀ (W : World) (i : Nat), i < n → Below w.heap.size w W → Calls Try.prog g (#[.int .i64 (i : Int)] ++ cb) W fun e w' => e = .returned (.bool (p i)) ∧ Below W.heap.size W w') :
    Calls Try.prog 46 #[.int .i64 n, .func (.func g) #[] cb] w fun e w' => ∃ r : Nat, e = .returned (.int .i64 (r : Int)) ∧ Below w.heap.size w w' ∧ Srch p n r := by
 have HF : Aside0 _ := ⟨hf⟩
 clear hf
 go_enter Try.func46, Try.ntmps46
 go_wp2
 go_loopg [5, 6] n (fun kx s5 s6 wr => ∃ (lo hi : Nat), s5 = .int .i64 (lo : Int) ∧ s6 = .int .i64 (hi : Int) ∧ lo ≤ hi ∧ hi ≤ n ∧ hi - lo ≤ kx ∧ Aside0 (Below w.heap.size w wr) ∧ Aside0 ((lo = 0 ∨ p (lo - 1) = false) ∧ (hi = n ∨ p hi = true)))
 case atStart => exact ⟨0, n, rfl, rfl, Nat.zero_le _, Nat.le_refl _, by omega, ⟨Below.refl _ _⟩, ⟨.inl rfl, .inl rfl⟩⟩
 case round =>
  obtain ⟨lo, hi, rfl, rfl, hlh, hin, hg, HB, I⟩ := hrel
  by_cases hlt : lo < hi
  ·have hc := HF.out wr ((lo + hi) / 2) (by omega) HB.out
   rw [show (((lo + hi) / 2 : Nat) : Int) = ((lo : Int) + (hi : Int)) / 2 by omega] at hc
   cases hp : p ((lo + hi) / 2) <;> rw [hp] at hc
   ·have HP : Aside0 (p ((lo + hi) / 2) = false) := ⟨hp⟩
    clear hp
    go_wp2_with (go_at_fn g; refine hc.mono ?_; rintro e w' ⟨rfl, hb⟩)
    go_roundg (hi - ((lo + hi) / 2 + 1))
    case measure => omega
    case rel =>
     exact ⟨(lo + hi) / 2 + 1, hi, by first | rfl | (congr 1; omega), rfl, by omega, hin, by omega, ⟨below_step HB.out hb⟩, ⟨.inr (by rw [Nat.add_sub_cancel]; exact HP.out), I.out.2⟩⟩
   ·have HP : Aside0 (p ((lo + hi) / 2) = true) := ⟨hp⟩
    clear hp
    go_wp2_with (go_at_fn g; refine hc.mono ?_; rintro e w' ⟨rfl, hb⟩)
    go_roundg ((lo + hi) / 2 - lo)
    case measure => omega
    case rel =>
     exact ⟨lo, (lo + hi) / 2, rfl, by first | rfl | (congr 1; omega), by omega, by omega, by omega, ⟨below_step HB.out hb⟩, ⟨I.out.1, .inr HP.out⟩⟩
  ·go_wp2
   go_ret
   have he : lo = hi := by omega
   subst he
   exact ⟨lo, rfl, HB.out, hin, I.out.1, I.out.2⟩
end Go.Proofs.Ytkicfaboibfbpaa.A
end
section
set_option linter.unusedVariables false
set_option linter.unusedSimpArgs false
namespace Go.Proofs.Ytkicfaboibfbpaa.A
open Go.RowKit Go.Proofs.YtkicfaboibfbpaaW.PrintWords Go.Proofs.YtkicfaboibfbpaaW.PrintLast Go.Proofs.YtkicfaboibfbpaaW.PrintMore Go.Proofs.Ytkicfaboibfbpaa.PCurveAts

theorem kn_at {w : World} {A : Option Addr} {l : List (Nat × Nat)} (h : Kn w A l) (i : Nat) (h1 : i < l.length) : ∃ ad, A = some ad ∧ w.cell? (ad.add (i * 2)) = some (.int .u32 ((gk l i).1 : Int)) ∧ w.cell? ⟨(ad.add (i * 2)).block, (ad.add (i * 2)).off + 1, none⟩ = some (.int .u32 ((gk l i).2 : Int)) := by
 obtain ⟨ad, e, h2, h3⟩ := at_T43 h (i : Int) (by omega) (by omega)
 rw [rd_kI] at h2 h3
 rw [Int.toNat_natCast] at h2 h3
 exact ⟨ad, e, h2, h3⟩
/-- a curve in memory -/
def CvB (w : World) (g : Nat) (A : Option Addr) (c : Nat) (l : List (Nat × Nat)) : Prop := w.heap[g]? = some (.cells #[.slice A l.length c] 78 (0, 0)) ∧ l.length ≤ c ∧ Kn w A l
theorem CvB.below {w w' : World} {g : Nat} {A : Option Addr} {c : Nat} {l : List (Nat × Nat)} (h : CvB w g A c l) (hb : Below w.heap.size w w') : CvB w' g A c l := ⟨blk_below h.1 hb, h.2.1, h.2.2.below hb⟩
theorem closure47_calls (bc bx g : Nat) (A : Option Addr) (c : Nat) (l : List (Nat × Nat)) (hl : kok l) (x i : Nat) (hx : x < 4294967296) (hi : i < l.length) (w : World) (hC : CvB w g A c l) (hbc : w.cell? ⟨bc, 0, none⟩ = some (.pointer (some ⟨g, 0, none⟩))) (hbx : w.cell? ⟨bx, 0, none⟩ = some (.int .u32 (x : Int))) :
    Calls Try.prog 47 #[.int .i64 (i : Int), .pointer (some ⟨bc, 0, none⟩), .pointer (some ⟨bx, 0, none⟩)] w fun e w' => e = .returned (.bool (!lt (gk l i).1 x)) ∧ Below w.heap.size w w' := by
 obtain ⟨h1, h2, h3⟩ := hC
 obtain ⟨ad, rfl, hc0, hc1⟩ := kn_at h3 i hi
 have g1 := (gk_ok hl i).1
 have hg0 : w.cell? ⟨g, 0, none⟩ = some (.slice (some ad) l.length c) := (blk_cell h1 0).trans rfl
 have d1 : decide ((0 : Int) ≤ (i : Int)) = true := decide_eq_true (by omega)
 have d2 : decide ((i : Int) < (l.length : Int)) = true := decide_eq_true (by omega)
 have HX : Aside0 _ := ⟨hx⟩
 have HG : Aside0 _ := ⟨g1⟩
 clear h1 h3 hx g1 hc1 h2
 go_enter Try.func47, Try.ntmps47
 go_wp2
 go_quiet (first | (go_at_call 45; with_reducible exact Calls.quiet_of_same (Less_calls (gk l i).1 x HG.out HX.out _)))
 go_wp2
 go_ret
 exact ⟨rfl, pw_below_drewN (Below.refl _ _) _⟩
end Go.Proofs.Ytkicfaboibfbpaa.A
end
section
set_option linter.unusedVariables false
set_option linter.unusedSimpArgs false
namespace Go.Proofs.Ytkicfaboibfbpaa.A
open Ieee
/-- what a piece comes to, not yet kept within -/
def rawO (a b : Nat × Nat) (x : Nat) : Option Nat :=
 (wv a.2).bind fun vy0 => (wv b.2).bind fun vy1 => (wv a.1).bind fun vx0 => (wv b.1).bind fun vx1 => (wv x).bind fun vx =>
 (floatBits .sub .f64 vy1 vy0).bind fun dY => (floatBits .sub .f64 vx1 vx0).bind fun dX => (floatBits .quo .f64 dY dX).bind fun s => (floatBits .sub .f64 vx vx0).bind fun dx =>
 (floatBits .mul .f64 dx s).bind fun p => (floatBits .add .f64 vy0 p).bind fun v => floatToFloatBits .f64 v .f32
def raw (a b : Nat × Nat) (x : Nat) : Nat := (rawO a b x).getD 0
theorem Bw.raw {a b : Nat × Nat} {x S r : Nat} (h : Bw a.2 b.2 a.1 b.1 x S r) : raw a b x = r := by
 obtain ⟨vy0, vy1, vx0, vx1, vx, dY, dX, dx, s, p, v, ey0, ey1, ex0, ex1, ex, edY, edX, es, edx, ep, ev, eb⟩ := h.ex
 unfold A.raw rawO
 rw [ey0, Option.bind_some, ey1, Option.bind_some, ex0, Option.bind_some, ex1, Option.bind_some, ex, Option.bind_some, edY, Option.bind_some, edX, Option.bind_some, es, Option.bind_some, edx, Option.bind_some, ep, Option.bind_some, ev, Option.bind_some, eb]
 rfl
/-- what a piece has -/
def btv (a b : Nat × Nat) (x : Nat) : Nat := if eqv a.2 b.2 = true then a.2 else clp a.2 b.2 (raw a b x)
/-- what a curve has, the piece being known -/
def atS (l : List (Nat × Nat)) (x r : Nat) : Nat :=
 if isnan x = true then made else if lt (gk l 0).1 x = false then (gk l 0).2 else if lt x (gk l (l.length - 1)).1 = false then (gk l (l.length - 1)).2
 else if eqv (gk l r).1 x = true then (gk l r).2 else btv (gk l (r - 1)) (gk l r) x
/-- the place of the first knot that isn't below -/
def fidx : List (Nat × Nat) → Nat → Nat
 | [], _ => 0
 | k :: t, x => if lt k.1 x = true then fidx t x + 1 else 0
/-- what a curve has -/
def atP (l : List (Nat × Nat)) (x : Nat) : Nat := atS l x (fidx l x)
/-- knots that may be -/
structure Val (l : List (Nat × Nat)) : Prop where
 ok : kok l
 two : 2 ≤ l.length
 most : l.length ≤ 64
 fin : ∀ i, i < l.length → (∃ z, F32 (gk l i).1 z) ∧ ∃ z, F32 (gk l i).2 z
 ris : ∀ i, i + 1 < l.length → lt (gk l i).1 (gk l (i + 1)).1 = true ∧ lt (gk l (i + 1)).2 (gk l i).2 = false
theorem bad1_fin {l : List (Nat × Nat)} (h : bad1 l = false) (i : Nat) (hi : i < l.length) : fin (gk l i).1 = true ∧ fin (gk l i).2 = true := by
 unfold bad1 at h
 rw [List.any_eq_false] at h
 have h1 := h (gk l i) (by unfold gk; rw [List.getD_eq_getElem?_getD, List.getElem?_eq_getElem hi]; exact List.getElem_mem hi)
 cases h2 : fin (gk l i).1 <;> cases h3 : fin (gk l i).2 <;> rw [h2, h3] at h1 <;> simp at h1
 exact ⟨rfl, rfl⟩
theorem bad2_ris : ∀ (l : List (Nat × Nat)), bad2 l = false → ∀ i, i + 1 < l.length → lt (gk l i).1 (gk l (i + 1)).1 = true ∧ lt (gk l (i + 1)).2 (gk l i).2 = false
 | [], _, i, hi => absurd hi (by simp)
 | [_], _, i, hi => absurd hi (by simp)
 | a :: b :: t, h, i, hi => by
  unfold bad2 at h
  rw [Bool.or_eq_false_iff, Bool.or_eq_false_iff] at h
  obtain ⟨⟨h1, h2⟩, h3⟩ := h
  cases i with
  | zero =>
   have h1' : lt a.1 b.1 = true := by simpa using h1
   exact ⟨h1', h2⟩
  | succ i =>
   have := bad2_ris (b :: t) h3 i (by simp at hi ⊢; omega)
   exact this
theorem chk_val {l : List (Nat × Nat)} (hl : kok l) (h : chk l = 0) : Val l := by
 unfold chk at h
 by_cases c1 : l.length < 2 ∨ 64 < l.length
 ·rw [if_pos c1] at h; cases h
 ·rw [if_neg c1] at h
  cases c2 : bad1 l with
  | true => rw [c2, if_pos rfl] at h; cases h
  | false =>
   rw [c2, if_neg (by decide)] at h
   cases c3 : bad2 l with
   | true => rw [c3, if_pos rfl] at h; cases h
   | false =>
    refine ⟨hl, by omega, by omega, fun i hi => ?_, bad2_ris l c3⟩
    obtain ⟨h1, h2⟩ := bad1_fin c2 i hi
    have g := gk_ok hl i
    unfold A.fin at h1 h2
    exact ⟨F32_of_fin g.1 (of_decide_eq_true h1), F32_of_fin g.2 (of_decide_eq_true h2)⟩
theorem lt_trans {a b c : Nat} (h : lt a b = true) (h2 : lt b c = true) : lt a c = true := by
 unfold lt at *
 simp only [Bool.and_eq_true, Bool.not_eq_true', decide_eq_true_eq] at *
 exact ⟨⟨h.1.1, h2.1.2⟩, by omega⟩
/-- a sample below a finite one and above a finite one is finite -/
theorem F32_between {x a b : Nat} {y z : Int} (hx : x < 4294967296) (ha : F32 a y) (hb : F32 b z) (h : lt a x = true) (h2 : lt x b = true) : ∃ v, F32 x v ∧ y < v ∧ v < z := by
 obtain ⟨na, r, rfl, hr, rfl⟩ := ha
 obtain ⟨nb, q, rfl, hq, rfl⟩ := hb
 obtain ⟨nx, t, ht, rfl⟩ := word_of single (x := x) hx
 have hs := ils
 have h3 := h
 have h4 := h2
 unfold lt at h3 h4
 simp only [Bool.and_eq_true, Bool.not_eq_true', decide_eq_true_eq] at h3 h4
 rw [pz_word na (by omega), pz_word nx ht] at h3
 rw [pz_word nb (by omega), pz_word nx ht] at h4
 have ht2 : t < single.infRung := by
  have h5 := h3.2
  have h6 := h4.2
  unfold sg at h5 h6
  cases nx <;> cases na <;> cases nb <;> simp only [Bool.false_eq_true, if_false, if_true] at h5 h6 <;> omega
 have hF : F32 (single.word nx t) (sg nx (U 23 cs t)) := ⟨nx, t, rfl, ht2, rfl⟩
 refine ⟨_, hF, ?_, ?_⟩
 ·have := F32.lt (⟨na, r, rfl, hr, rfl⟩ : F32 (single.word na r) _) hF
  rw [h] at this
  exact of_decide_eq_true this.symm
 ·have := F32.lt hF (⟨nb, q, rfl, hq, rfl⟩ : F32 (single.word nb q) _)
  rw [h2] at this
  exact of_decide_eq_true this.symm
/-- a piece reckons, and rises -/
theorem piece {a b : Nat × Nat} {y0 y1 x0 x1 : Int} (hy0 : F32 a.2 y0) (hy1 : F32 b.2 y1) (hx0 : F32 a.1 x0) (hx1 : F32 b.1 x1) (hx : x0 < x1) (hy : y0 < y1) :
    ∃ (S : Nat) (f : Int → Int), (∀ u v, x0 ≤ u → u ≤ v → f u ≤ f v) ∧ ∀ x v, F32 x v → x0 ≤ v → v ≤ x1 → Bw a.2 b.2 a.1 b.1 x S (raw a b x) ∧ F32 (raw a b x) (f v) := by
 obtain ⟨S, h⟩ := btw hy0 hy1 hx0 hx1 hy hx
 refine ⟨S, fun v => fz y0 S (v - x0), fun u v h1 h2 => fz_mono (by omega) (by omega), fun x v h1 h2 h3 => ?_⟩
 obtain ⟨r, hB, hF⟩ := h x v h1 h2 h3
 rw [hB.raw]
 exact ⟨hB, hF⟩
theorem lt_asymm {a b : Nat} (h : lt a b = true) : lt b a = false := by
 unfold lt at *
 simp only [Bool.and_eq_true, Bool.not_eq_true', decide_eq_true_eq] at h
 rw [decide_eq_false (by omega), Bool.and_false]
theorem Val.mono {l : List (Nat × Nat)} (h : Val l) {i : Nat} : ∀ {j}, i < j → j < l.length → lt (gk l i).1 (gk l j).1 = true
 | j + 1, h1, h2 => by
  rcases Nat.lt_or_eq_of_le (Nat.lt_succ_iff.mp h1) with h3 | h3
  ·exact lt_trans (h.mono h3 (by omega)) (h.ris j h2).1
  ·subst h3; exact (h.ris i h2).1
theorem fidx_eq : ∀ (l : List (Nat × Nat)) (x r : Nat), (∀ i, i < r → lt (gk l i).1 x = true) → lt (gk l r).1 x = false → r < l.length → fidx l x = r
 | [], x, r, _, _, h => absurd h (by simp)
 | k :: t, x, 0, _, h2, _ => by
  unfold fidx
  have h2 : lt k.1 x = false := h2
  rw [h2, if_neg (by decide)]
 | k :: t, x, r + 1, h1, h2, h3 => by
  unfold fidx
  have h4 : lt k.1 x = true := h1 0 (by omega)
  rw [h4, if_pos rfl, fidx_eq t x r (fun i hi => h1 (i + 1) (by omega)) h2 (by simpa using h3)]
/-- where the search ends is the first knot that isn't below -/
theorem srch_fidx {l : List (Nat × Nat)} (h : Val l) {x r : Nat} (h0 : lt (gk l 0).1 x = true) (hn : lt x (gk l (l.length - 1)).1 = true) (hs : Srch (fun i => !lt (gk l i).1 x) (l.length - 1) r) :
    fidx l x = r ∧ 1 ≤ r ∧ r < l.length ∧ lt (gk l (r - 1)).1 x = true ∧ lt (gk l r).1 x = false := by
 obtain ⟨s1, s2, s3⟩ := hs
 have two := h.two
 have hr : lt (gk l r).1 x = false := by
  rcases s3 with s3 | s3
  ·rw [s3]; exact lt_asymm hn
  ·simpa using s3
 have hr1 : 1 ≤ r := by
  rcases Nat.eq_zero_or_pos r with e | e
  ·rw [e, h0] at hr; cases hr
  ·exact e
 have hr2 : lt (gk l (r - 1)).1 x = true := by
  rcases s2 with s2 | s2
  ·omega
  ·simpa using s2
 refine ⟨fidx_eq l x r (fun i hi => ?_) hr (by omega), hr1, by omega, hr2, hr⟩
 rcases Nat.lt_or_eq_of_le (show i ≤ r - 1 by omega) with h3 | h3
 ·exact lt_trans (h.mono h3 (by omega)) hr2
 ·rw [h3]; exact hr2
/-- a piece of knots that may be, at a place within -/
theorem Val.piece {l : List (Nat × Nat)} (h : Val l) {x r : Nat} (hx : x < 4294967296) (hr : r + 1 < l.length) (h1 : lt (gk l r).1 x = true) (h2 : lt x (gk l (r + 1)).1 = true) (he : eqv (gk l r).2 (gk l (r + 1)).2 = false) :
    ∃ S, Bw (gk l r).2 (gk l (r + 1)).2 (gk l r).1 (gk l (r + 1)).1 x S (raw (gk l r) (gk l (r + 1)) x) ∧ raw (gk l r) (gk l (r + 1)) x < 4294967296 := by
 obtain ⟨⟨x0, hx0⟩, ⟨y0, hy0⟩⟩ := h.fin r (by omega)
 obtain ⟨⟨x1, hx1⟩, ⟨y1, hy1⟩⟩ := h.fin (r + 1) hr
 obtain ⟨v, hv, v1, v2⟩ := F32_between hx hx0 hx1 h1 h2
 have hy := (h.ris r hr).2
 rw [hy1.lt hy0] at hy
 rw [hy0.eqv hy1] at he
 have hy := of_decide_eq_false hy
 have he := of_decide_eq_false he
 obtain ⟨S, f, _, hp⟩ := A.piece hy0 hy1 hx0 hx1 (by omega) (by omega)
 obtain ⟨hB, hF⟩ := hp x v hv (by omega) (by omega)
 exact ⟨S, hB, hF.ok.2⟩
theorem eqv_false_lt {a x : Nat} (ha : isnan a = false) (hx : isnan x = false) (h : lt a x = false) (h2 : eqv a x = false) : lt x a = true := by
 unfold lt eqv at *
 rw [ha, hx] at *
 simp only [Bool.not_false, Bool.true_and, decide_eq_false_iff_not, decide_eq_true_eq] at *
 omega
end Go.Proofs.Ytkicfaboibfbpaa.A
end
section
set_option linter.unusedVariables false
set_option linter.unusedSimpArgs false
namespace Go.Proofs.Ytkicfaboibfbpaa.A
open Go.RowKit Go.Proofs.YtkicfaboibfbpaaW.PrintWords Go.Proofs.YtkicfaboibfbpaaW.PrintLast Go.Proofs.YtkicfaboibfbpaaW.PrintMore Go.Proofs.Ytkicfaboibfbpaa.PCurveAts

theorem kn_at2 {w : World} {ad : Addr} {l : List (Nat × Nat)} (h : Kn w (some ad) l) (i : Nat) (h1 : i < l.length) : w.cell? (ad.add (i * 2)) = some (.int .u32 ((gk l i).1 : Int)) ∧ w.cell? ⟨(ad.add (i * 2)).block, (ad.add (i * 2)).off + 1, none⟩ = some (.int .u32 ((gk l i).2 : Int)) := by
 obtain ⟨ad2, e, h2, h3⟩ := kn_at h i h1
 obtain rfl := Option.some.inj e
 exact ⟨h2, h3⟩
theorem kn_at0 {w : World} {ad : Addr} {l : List (Nat × Nat)} (h : Kn w (some ad) l) (h1 : 0 < l.length) : w.cell? ad = some (.int .u32 ((gk l 0).1 : Int)) ∧ w.cell? ⟨ad.block, ad.off + 1, none⟩ = some (.int .u32 ((gk l 0).2 : Int)) := by
 obtain ⟨h2, h3⟩ := kn_at2 h 0 h1
 rw [show 0 * 2 = 0 from rfl, Addr.add_zero'] at h2 h3
 exact ⟨h2, h3⟩
/-- there is an end of every search -/
theorem srch_ex (p : Nat → Bool) : ∀ n, ∃ r, Srch p n r
 | 0 => ⟨0, Nat.le_refl _, .inl rfl, .inl rfl⟩
 | n + 1 => by
  obtain ⟨r, h1, h2, h3⟩ := srch_ex p n
  rcases h3 with h3 | h3
  ·cases h4 : p n
   ·exact ⟨n + 1, Nat.le_refl _, .inr h4, .inl rfl⟩
   ·subst h3; exact ⟨r, by omega, h2, .inr h4⟩
  ·exact ⟨r, by omega, h2, .inr h3⟩
theorem fidx_ok {l : List (Nat × Nat)} (h : Val l) {x : Nat} (h0 : lt (gk l 0).1 x = true) (hn : lt x (gk l (l.length - 1)).1 = true) : 1 ≤ fidx l x ∧ fidx l x < l.length ∧ lt (gk l (fidx l x - 1)).1 x = true ∧ lt (gk l (fidx l x)).1 x = false := by
 obtain ⟨r, hs⟩ := srch_ex (fun i => !lt (gk l i).1 x) (l.length - 1)
 obtain ⟨rfl, h1⟩ := srch_fidx h h0 hn hs
 exact h1
section
variable {l : List (Nat × Nat)} (hv : Val l) {x q : Nat} (hx : x < 4294967296) (hq : q + 1 < l.length) (h1 : lt (gk l q).1 x = true) (h2 : lt x (gk l (q + 1)).1 = true) (w : World)
include hv hx hq h1 h2
theorem btv_calls : Calls Try.prog 49 #[.agg #[.int .u32 ((gk l q).1 : Int), .int .u32 ((gk l q).2 : Int)], .agg #[.int .u32 ((gk l (q + 1)).1 : Int), .int .u32 ((gk l (q + 1)).2 : Int)], .int .u32 (x : Int)] w fun e w' => e = .returned (.int .u32 ((btv (gk l q) (gk l (q + 1)) x : Nat) : Int)) ∧ Below w.heap.size w w' := by
 unfold btv
 cases he : eqv (gk l q).2 (gk l (q + 1)).2
 ·obtain ⟨S, hB, hr⟩ := hv.piece hx hq h1 h2 he
  exact between_ne (gk l q) (gk l (q + 1)) x S _ (gk_ok hv.ok q) (gk_ok hv.ok _) hr he hB w
 ·exact between_eq (gk l q) (gk l (q + 1)) x (gk_ok hv.ok q).2 (gk_ok hv.ok _).2 he w
theorem rbtv_calls : Calls Try.prog 50 #[.agg #[.int .u32 ((gk l q).1 : Int), .int .u32 ((gk l q).2 : Int)], .agg #[.int .u32 ((gk l (q + 1)).1 : Int), .int .u32 ((gk l (q + 1)).2 : Int)], .int .u32 (x : Int)] w fun e w' => e = .returned (.int .u32 ((btv (gk l q) (gk l (q + 1)) x : Nat) : Int)) ∧ Below w.heap.size w w' := by
 unfold btv
 cases he : eqv (gk l q).2 (gk l (q + 1)).2
 ·obtain ⟨S, hB, hr⟩ := hv.piece hx hq h1 h2 he
  exact rbetween_ne (gk l q) (gk l (q + 1)) x S _ (gk_ok hv.ok q) (gk_ok hv.ok _) hr he hB w
 ·exact rbetween_eq (gk l q) (gk l (q + 1)) x (gk_ok hv.ok q).2 (gk_ok hv.ok _).2 he w
end
set_option maxHeartbeats 4000000 in
theorem At_nan (g : Nat) (A : Option Addr) (c : Nat) (l : List (Nat × Nat)) (hv : Val l) (x : Nat) (hx : x < 4294967296) (w : World) (hC : CvB w g A c l) (c0 : isnan x = true) :
    Calls Try.prog 17 #[.pointer (some ⟨g, 0, none⟩), .int .u32 (x : Int)] w fun e w' => e = .returned (.int .u32 ((made : Nat) : Int)) ∧ Below w.heap.size w w' := by
 obtain ⟨m, hm⟩ : ∃ m, l.length = m + 1 := ⟨l.length - 1, by have := hv.two; omega⟩
 have hC0 := hC.2.2
 obtain ⟨ad, rfl, _⟩ := kn_at hC0 0 (by omega)
 have LP : Aside0 (0 < l.length) := ⟨by omega⟩
 have LM : Aside0 (m < l.length) := ⟨by omega⟩
 have h64 := hv.most
 have d1 : decide ((0 : Int) ≤ (m : Int)) = true := decide_eq_true (by omega)
 have d2 : decide ((m : Int) < (l.length : Int)) = true := decide_eq_true (by omega)
 have d3 : decide ((0 : Int) < (l.length : Int)) = true := decide_eq_true (by omega)
 have d4 : (0 < l.length) = True := eq_true (by omega)
 have d5 : ((0 : Int) ≤ (m : Int)) = True := eq_true (by omega)
 have d6 : ((m : Int) < (l.length : Int)) = True := eq_true (by omega)
 have d7 : (m < l.length) = True := eq_true (by omega)
 have wn : IntKind.i64.wrap ((l.length : Int) - 1) = (m : Int) := by rw [show IntKind.i64.wrap ((l.length : Int) - 1) = wrap64 ((l.length : Int) - 1) from i64_w _, w64 (by omega) (by omega)]; omega
 have HX : Aside0 _ := ⟨hx⟩
 have HK : Aside0 _ := ⟨(gk_ok hv.ok 0).1⟩
 have HM : Aside0 _ := ⟨(gk_ok hv.ok m).1⟩
 have C0 : Aside0 (CvB w g (some ad) c l) := ⟨hC⟩
 have B_0 : Aside0 (Below w.heap.size w w) := ⟨Below.refl _ _⟩
 have HV : Aside0 (Val l) := ⟨hv⟩
 have HE : Aside0 (l.length = m + 1) := ⟨hm⟩
 clear hC hC0 hx hv h64 hm
 go_enter Try.func17, Try.ntmps17
 go_wp2_with (first | ((with_reducible refine gate_dst (N := 2) rfl ?_); refine box_event ?hg (N := 2) ?hd (cs := #[.pointer (some ⟨g, 0, none⟩)]) (t := 26) ?hr ?_; (case hd => rfl); (case hg => rfl); (case hr => first | (go_simp; done) | (go_simp; rfl)); intro bc hg_ w1 hm_ hb_; have B_1 := Aside0.mk (below_step B_0.out hb_); have C1 := Aside0.mk (C0.out.below hb_); have P1 := Aside0.mk (hm_); clear B_0 C0; clear hm_ hb_ hg_) | ((with_reducible refine gate_dst (N := 3) rfl ?_); refine box_event ?hg (N := 3) ?hd (cs := #[.int .u32 (x : Int)]) (t := 30) ?hr ?_; (case hd => rfl); (case hg => rfl); (case hr => first | (go_simp; done) | (go_simp; rfl)); intro bx hg_ w2 hm_ hb_; have B_2 := Aside0.mk (below_step B_1.out hb_); have C2 := Aside0.mk (C1.out.below hb_); have P2 := Aside0.mk (blk_below P1.out hb_); have X2 := Aside0.mk (hm_); clear B_1 C1 P1; have gs := (blk_cell C2.out.1 0).trans rfl; have o0 := (blk_cell P2.out 0).trans rfl; have x0 := (blk_cell X2.out 0).trans rfl; obtain ⟨a0, a1⟩ := kn_at0 C2.out.2.2 LP.out; obtain ⟨n0, n1⟩ := kn_at2 C2.out.2.2 m LM.out; clear hm_ hb_ hg_) | (go_at_call 44; (with_reducible refine (IsNaN_calls x HX.out _).mono ?_); rw [c0]; rintro e w3 ⟨rfl, hb⟩; clear gs o0 x0 a0 a1 n0 n1; have B_3 := Aside0.mk (below_step B_2.out hb); have C3 := Aside0.mk (C2.out.below hb); have P3 := Aside0.mk (blk_below P2.out hb); have X3 := Aside0.mk (blk_below X2.out hb); clear B_2 C2 P2 X2 hb; have gs := (blk_cell C3.out.1 0).trans rfl; have o0 := (blk_cell P3.out 0).trans rfl; have x0 := (blk_cell X3.out 0).trans rfl; obtain ⟨a0, a1⟩ := kn_at0 C3.out.2.2 LP.out; obtain ⟨n0, n1⟩ := kn_at2 C3.out.2.2 m LM.out))
 go_ret
 exact ⟨rfl, B_3.out⟩
set_option maxHeartbeats 4000000 in
theorem At_low (g : Nat) (A : Option Addr) (c : Nat) (l : List (Nat × Nat)) (hv : Val l) (x : Nat) (hx : x < 4294967296) (w : World) (hC : CvB w g A c l) (c0 : isnan x = false) (c1 : lt (gk l 0).1 x = false) :
    Calls Try.prog 17 #[.pointer (some ⟨g, 0, none⟩), .int .u32 (x : Int)] w fun e w' => e = .returned (.int .u32 (((gk l 0).2 : Nat) : Int)) ∧ Below w.heap.size w w' := by
 obtain ⟨m, hm⟩ : ∃ m, l.length = m + 1 := ⟨l.length - 1, by have := hv.two; omega⟩
 have hC0 := hC.2.2
 obtain ⟨ad, rfl, _⟩ := kn_at hC0 0 (by omega)
 have LP : Aside0 (0 < l.length) := ⟨by omega⟩
 have LM : Aside0 (m < l.length) := ⟨by omega⟩
 have h64 := hv.most
 have d1 : decide ((0 : Int) ≤ (m : Int)) = true := decide_eq_true (by omega)
 have d2 : decide ((m : Int) < (l.length : Int)) = true := decide_eq_true (by omega)
 have d3 : decide ((0 : Int) < (l.length : Int)) = true := decide_eq_true (by omega)
 have d4 : (0 < l.length) = True := eq_true (by omega)
 have d5 : ((0 : Int) ≤ (m : Int)) = True := eq_true (by omega)
 have d6 : ((m : Int) < (l.length : Int)) = True := eq_true (by omega)
 have d7 : (m < l.length) = True := eq_true (by omega)
 have wn : IntKind.i64.wrap ((l.length : Int) - 1) = (m : Int) := by rw [show IntKind.i64.wrap ((l.length : Int) - 1) = wrap64 ((l.length : Int) - 1) from i64_w _, w64 (by omega) (by omega)]; omega
 have HX : Aside0 _ := ⟨hx⟩
 have HK : Aside0 _ := ⟨(gk_ok hv.ok 0).1⟩
 have HM : Aside0 _ := ⟨(gk_ok hv.ok m).1⟩
 have C0 : Aside0 (CvB w g (some ad) c l) := ⟨hC⟩
 have B_0 : Aside0 (Below w.heap.size w w) := ⟨Below.refl _ _⟩
 have HV : Aside0 (Val l) := ⟨hv⟩
 have HE : Aside0 (l.length = m + 1) := ⟨hm⟩
 clear hC hC0 hx hv h64 hm
 go_enter Try.func17, Try.ntmps17
 go_wp2_with (first | ((with_reducible refine gate_dst (N := 2) rfl ?_); refine box_event ?hg (N := 2) ?hd (cs := #[.pointer (some ⟨g, 0, none⟩)]) (t := 26) ?hr ?_; (case hd => rfl); (case hg => rfl); (case hr => first | (go_simp; done) | (go_simp; rfl)); intro bc hg_ w1 hm_ hb_; have B_1 := Aside0.mk (below_step B_0.out hb_); have C1 := Aside0.mk (C0.out.below hb_); have P1 := Aside0.mk (hm_); clear B_0 C0; clear hm_ hb_ hg_) | ((with_reducible refine gate_dst (N := 3) rfl ?_); refine box_event ?hg (N := 3) ?hd (cs := #[.int .u32 (x : Int)]) (t := 30) ?hr ?_; (case hd => rfl); (case hg => rfl); (case hr => first | (go_simp; done) | (go_simp; rfl)); intro bx hg_ w2 hm_ hb_; have B_2 := Aside0.mk (below_step B_1.out hb_); have C2 := Aside0.mk (C1.out.below hb_); have P2 := Aside0.mk (blk_below P1.out hb_); have X2 := Aside0.mk (hm_); clear B_1 C1 P1; have gs := (blk_cell C2.out.1 0).trans rfl; have o0 := (blk_cell P2.out 0).trans rfl; have x0 := (blk_cell X2.out 0).trans rfl; obtain ⟨a0, a1⟩ := kn_at0 C2.out.2.2 LP.out; obtain ⟨n0, n1⟩ := kn_at2 C2.out.2.2 m LM.out; clear hm_ hb_ hg_) | (go_at_call 44; (with_reducible refine (IsNaN_calls x HX.out _).mono ?_); rw [c0]; rintro e w3 ⟨rfl, hb⟩; clear gs o0 x0 a0 a1 n0 n1; have B_3 := Aside0.mk (below_step B_2.out hb); have C3 := Aside0.mk (C2.out.below hb); have P3 := Aside0.mk (blk_below P2.out hb); have X3 := Aside0.mk (blk_below X2.out hb); clear B_2 C2 P2 X2 hb; have gs := (blk_cell C3.out.1 0).trans rfl; have o0 := (blk_cell P3.out 0).trans rfl; have x0 := (blk_cell X3.out 0).trans rfl; obtain ⟨a0, a1⟩ := kn_at0 C3.out.2.2 LP.out; obtain ⟨n0, n1⟩ := kn_at2 C3.out.2.2 m LM.out))
 go_quiet (first | (go_at_call 45; with_reducible exact Calls.quiet_of_same (Less_calls (gk l 0).1 x HK.out HX.out _)))
 obtain ⟨w4, hw4⟩ : ∃ w4, w4 = w3.drewN nq := ⟨_, rfl⟩
 rw [← hw4]
 have hb : Below w3.heap.size w3 w4 := by rw [hw4]; exact pw_below_drewN (Below.refl _ _) nq
 clear hw4
 clear gs o0 x0 a0 a1 n0 n1
 have B_4 := Aside0.mk (below_step B_3.out hb)
 have C4 := Aside0.mk (C3.out.below hb)
 have P4 := Aside0.mk (blk_below P3.out hb)
 have X4 := Aside0.mk (blk_below X3.out hb)
 clear B_3 C3 P3 X3 hb
 have gs := (blk_cell C4.out.1 0).trans rfl
 have o0 := (blk_cell P4.out 0).trans rfl
 have x0 := (blk_cell X4.out 0).trans rfl
 obtain ⟨a0, a1⟩ := kn_at0 C4.out.2.2 LP.out
 obtain ⟨n0, n1⟩ := kn_at2 C4.out.2.2 m LM.out
 rw [c1]
 go_wp2
 go_ret
 exact ⟨rfl, B_4.out⟩
set_option maxHeartbeats 4000000 in
theorem At_high (g : Nat) (A : Option Addr) (c : Nat) (l : List (Nat × Nat)) (hv : Val l) (x : Nat) (hx : x < 4294967296) (w : World) (hC : CvB w g A c l) (c0 : isnan x = false) (c1 : lt (gk l 0).1 x = true) (c2 : lt x (gk l (l.length - 1)).1 = false) :
    Calls Try.prog 17 #[.pointer (some ⟨g, 0, none⟩), .int .u32 (x : Int)] w fun e w' => e = .returned (.int .u32 (((gk l (l.length - 1)).2 : Nat) : Int)) ∧ Below w.heap.size w w' := by
 obtain ⟨m, hm⟩ : ∃ m, l.length = m + 1 := ⟨l.length - 1, by have := hv.two; omega⟩
 have hC0 := hC.2.2
 obtain ⟨ad, rfl, _⟩ := kn_at hC0 0 (by omega)
 rw [show l.length - 1 = m by omega] at c2 ⊢
 have LP : Aside0 (0 < l.length) := ⟨by omega⟩
 have LM : Aside0 (m < l.length) := ⟨by omega⟩
 have h64 := hv.most
 have d1 : decide ((0 : Int) ≤ (m : Int)) = true := decide_eq_true (by omega)
 have d2 : decide ((m : Int) < (l.length : Int)) = true := decide_eq_true (by omega)
 have d3 : decide ((0 : Int) < (l.length : Int)) = true := decide_eq_true (by omega)
 have d4 : (0 < l.length) = True := eq_true (by omega)
 have d5 : ((0 : Int) ≤ (m : Int)) = True := eq_true (by omega)
 have d6 : ((m : Int) < (l.length : Int)) = True := eq_true (by omega)
 have d7 : (m < l.length) = True := eq_true (by omega)
 have wn : IntKind.i64.wrap ((l.length : Int) - 1) = (m : Int) := by rw [show IntKind.i64.wrap ((l.length : Int) - 1) = wrap64 ((l.length : Int) - 1) from i64_w _, w64 (by omega) (by omega)]; omega
 have HX : Aside0 _ := ⟨hx⟩
 have HK : Aside0 _ := ⟨(gk_ok hv.ok 0).1⟩
 have HM : Aside0 _ := ⟨(gk_ok hv.ok m).1⟩
 have C0 : Aside0 (CvB w g (some ad) c l) := ⟨hC⟩
 have B_0 : Aside0 (Below w.heap.size w w) := ⟨Below.refl _ _⟩
 have HV : Aside0 (Val l) := ⟨hv⟩
 have HE : Aside0 (l.length = m + 1) := ⟨hm⟩
 clear hC hC0 hx hv h64 hm
 go_enter Try.func17, Try.ntmps17
 go_wp2_with (first | ((with_reducible refine gate_dst (N := 2) rfl ?_); refine box_event ?hg (N := 2) ?hd (cs := #[.pointer (some ⟨g, 0, none⟩)]) (t := 26) ?hr ?_; (case hd => rfl); (case hg => rfl); (case hr => first | (go_simp; done) | (go_simp; rfl)); intro bc hg_ w1 hm_ hb_; have B_1 := Aside0.mk (below_step B_0.out hb_); have C1 := Aside0.mk (C0.out.below hb_); have P1 := Aside0.mk (hm_); clear B_0 C0; clear hm_ hb_ hg_) | ((with_reducible refine gate_dst (N := 3) rfl ?_); refine box_event ?hg (N := 3) ?hd (cs := #[.int .u32 (x : Int)]) (t := 30) ?hr ?_; (case hd => rfl); (case hg => rfl); (case hr => first | (go_simp; done) | (go_simp; rfl)); intro bx hg_ w2 hm_ hb_; have B_2 := Aside0.mk (below_step B_1.out hb_); have C2 := Aside0.mk (C1.out.below hb_); have P2 := Aside0.mk (blk_below P1.out hb_); have X2 := Aside0.mk (hm_); clear B_1 C1 P1; have gs := (blk_cell C2.out.1 0).trans rfl; have o0 := (blk_cell P2.out 0).trans rfl; have x0 := (blk_cell X2.out 0).trans rfl; obtain ⟨a0, a1⟩ := kn_at0 C2.out.2.2 LP.out; obtain ⟨n0, n1⟩ := kn_at2 C2.out.2.2 m LM.out; clear hm_ hb_ hg_) | (go_at_call 44; (with_reducible refine (IsNaN_calls x HX.out _).mono ?_); rw [c0]; rintro e w3 ⟨rfl, hb⟩; clear gs o0 x0 a0 a1 n0 n1; have B_3 := Aside0.mk (below_step B_2.out hb); have C3 := Aside0.mk (C2.out.below hb); have P3 := Aside0.mk (blk_below P2.out hb); have X3 := Aside0.mk (blk_below X2.out hb); clear B_2 C2 P2 X2 hb; have gs := (blk_cell C3.out.1 0).trans rfl; have o0 := (blk_cell P3.out 0).trans rfl; have x0 := (blk_cell X3.out 0).trans rfl; obtain ⟨a0, a1⟩ := kn_at0 C3.out.2.2 LP.out; obtain ⟨n0, n1⟩ := kn_at2 C3.out.2.2 m LM.out))
 go_quiet (first | (go_at_call 45; with_reducible exact Calls.quiet_of_same (Less_calls (gk l 0).1 x HK.out HX.out _)))
 obtain ⟨w4, hw4⟩ : ∃ w4, w4 = w3.drewN nq := ⟨_, rfl⟩
 rw [← hw4]
 have hb : Below w3.heap.size w3 w4 := by rw [hw4]; exact pw_below_drewN (Below.refl _ _) nq
 clear hw4
 clear gs o0 x0 a0 a1 n0 n1
 have B_4 := Aside0.mk (below_step B_3.out hb)
 have C4 := Aside0.mk (C3.out.below hb)
 have P4 := Aside0.mk (blk_below P3.out hb)
 have X4 := Aside0.mk (blk_below X3.out hb)
 clear B_3 C3 P3 X3 hb
 have gs := (blk_cell C4.out.1 0).trans rfl
 have o0 := (blk_cell P4.out 0).trans rfl
 have x0 := (blk_cell X4.out 0).trans rfl
 obtain ⟨a0, a1⟩ := kn_at0 C4.out.2.2 LP.out
 obtain ⟨n0, n1⟩ := kn_at2 C4.out.2.2 m LM.out
 rw [c1]
 go_wp2
 go_quiet (first | (go_at_call 45; with_reducible exact Calls.quiet_of_same (Less_calls x (gk l m).1 HX.out HM.out _)))
 obtain ⟨w5, hw5⟩ : ∃ w5, w5 = w4.drewN nq := ⟨_, rfl⟩
 rw [← hw5]
 have hb : Below w4.heap.size w4 w5 := by rw [hw5]; exact pw_below_drewN (Below.refl _ _) nq
 clear hw5
 clear gs o0 x0 a0 a1 n0 n1
 have B_5 := Aside0.mk (below_step B_4.out hb)
 have C5 := Aside0.mk (C4.out.below hb)
 have P5 := Aside0.mk (blk_below P4.out hb)
 have X5 := Aside0.mk (blk_below X4.out hb)
 clear B_4 C4 P4 X4 hb
 have gs := (blk_cell C5.out.1 0).trans rfl
 have o0 := (blk_cell P5.out 0).trans rfl
 have x0 := (blk_cell X5.out 0).trans rfl
 obtain ⟨a0, a1⟩ := kn_at0 C5.out.2.2 LP.out
 obtain ⟨n0, n1⟩ := kn_at2 C5.out.2.2 m LM.out
 rw [c2]
 go_wp2
 go_ret
 exact ⟨rfl, B_5.out⟩
set_option maxHeartbeats 4000000 in
theorem At_eq (g : Nat) (A : Option Addr) (c : Nat) (l : List (Nat × Nat)) (hv : Val l) (x : Nat) (hx : x < 4294967296) (w : World) (hC : CvB w g A c l) (c0 : isnan x = false) (c1 : lt (gk l 0).1 x = true) (c2 : lt x (gk l (l.length - 1)).1 = true) (c3 : eqv (gk l (fidx l x)).1 x = true) :
    Calls Try.prog 17 #[.pointer (some ⟨g, 0, none⟩), .int .u32 (x : Int)] w fun e w' => e = .returned (.int .u32 (((gk l (fidx l x)).2 : Nat) : Int)) ∧ Below w.heap.size w w' := by
 obtain ⟨m, hm⟩ : ∃ m, l.length = m + 1 := ⟨l.length - 1, by have := hv.two; omega⟩
 have hC0 := hC.2.2
 obtain ⟨ad, rfl, _⟩ := kn_at hC0 0 (by omega)
 obtain ⟨f1, f2, f3, f4⟩ := fidx_ok hv c1 c2
 rw [show l.length - 1 = m by omega] at c2
 have LP : Aside0 (0 < l.length) := ⟨by omega⟩
 have LM : Aside0 (m < l.length) := ⟨by omega⟩
 have h64 := hv.most
 have d1 : decide ((0 : Int) ≤ (m : Int)) = true := decide_eq_true (by omega)
 have d2 : decide ((m : Int) < (l.length : Int)) = true := decide_eq_true (by omega)
 have d3 : decide ((0 : Int) < (l.length : Int)) = true := decide_eq_true (by omega)
 have d4 : (0 < l.length) = True := eq_true (by omega)
 have d5 : ((0 : Int) ≤ (m : Int)) = True := eq_true (by omega)
 have d6 : ((m : Int) < (l.length : Int)) = True := eq_true (by omega)
 have d7 : (m < l.length) = True := eq_true (by omega)
 have wn : IntKind.i64.wrap ((l.length : Int) - 1) = (m : Int) := by rw [show IntKind.i64.wrap ((l.length : Int) - 1) = wrap64 ((l.length : Int) - 1) from i64_w _, w64 (by omega) (by omega)]; omega
 have HX : Aside0 _ := ⟨hx⟩
 have HK : Aside0 _ := ⟨(gk_ok hv.ok 0).1⟩
 have HM : Aside0 _ := ⟨(gk_ok hv.ok m).1⟩
 have C0 : Aside0 (CvB w g (some ad) c l) := ⟨hC⟩
 have B_0 : Aside0 (Below w.heap.size w w) := ⟨Below.refl _ _⟩
 have HV : Aside0 (Val l) := ⟨hv⟩
 have HE : Aside0 (l.length = m + 1) := ⟨hm⟩
 clear hC hC0 hx hv h64 hm
 obtain ⟨r, hr⟩ : ∃ r, fidx l x = r := ⟨_, rfl⟩
 rw [hr] at f1 f2 f3 f4 c3 ⊢
 have e1 : decide ((0 : Int) ≤ (r : Int)) = true := decide_eq_true (by omega)
 have e2 : decide ((r : Int) < (l.length : Int)) = true := decide_eq_true (by omega)
 have e5 : ((0 : Int) ≤ (r : Int)) = True := eq_true (by omega)
 have e6 : ((r : Int) < (l.length : Int)) = True := eq_true (by omega)
 have e7 : (r < l.length) = True := eq_true f2
 have LR : Aside0 (r < l.length) := ⟨f2⟩
 have HR : Aside0 _ := ⟨(gk_ok HV.out.ok r).1⟩
 have C2' : Aside0 (lt x (gk l (l.length - 1)).1 = true) := ⟨by rw [show l.length - 1 = m by have := HE.out; omega]; exact c2⟩
 have eg : Aside0 (∀ args w, (callFunc 47 args).run Try.prog w = .ok (.enter 47 args) w) := ⟨enters_of Try.func47 (by kernel_rfl) rfl⟩
 go_enter Try.func17, Try.ntmps17
 go_wp2_with (first | ((with_reducible refine gate_dst (N := 2) rfl ?_); refine box_event ?hg (N := 2) ?hd (cs := #[.pointer (some ⟨g, 0, none⟩)]) (t := 26) ?hr ?_; (case hd => rfl); (case hg => rfl); (case hr => first | (go_simp; done) | (go_simp; rfl)); intro bc hg_ w1 hm_ hb_; have B_1 := Aside0.mk (below_step B_0.out hb_); have C1 := Aside0.mk (C0.out.below hb_); have P1 := Aside0.mk (hm_); clear B_0 C0; clear hm_ hb_ hg_) | ((with_reducible refine gate_dst (N := 3) rfl ?_); refine box_event ?hg (N := 3) ?hd (cs := #[.int .u32 (x : Int)]) (t := 30) ?hr ?_; (case hd => rfl); (case hg => rfl); (case hr => first | (go_simp; done) | (go_simp; rfl)); intro bx hg_ w2 hm_ hb_; have B_2 := Aside0.mk (below_step B_1.out hb_); have C2 := Aside0.mk (C1.out.below hb_); have P2 := Aside0.mk (blk_below P1.out hb_); have X2 := Aside0.mk (hm_); clear B_1 C1 P1; have gs := (blk_cell C2.out.1 0).trans rfl; have o0 := (blk_cell P2.out 0).trans rfl; have x0 := (blk_cell X2.out 0).trans rfl; obtain ⟨a0, a1⟩ := kn_at0 C2.out.2.2 LP.out; obtain ⟨n0, n1⟩ := kn_at2 C2.out.2.2 m LM.out; clear hm_ hb_ hg_) | (go_at_call 44; (with_reducible refine (IsNaN_calls x HX.out _).mono ?_); rw [c0]; rintro e w3 ⟨rfl, hb⟩; clear gs o0 x0 a0 a1 n0 n1; have B_3 := Aside0.mk (below_step B_2.out hb); have C3 := Aside0.mk (C2.out.below hb); have P3 := Aside0.mk (blk_below P2.out hb); have X3 := Aside0.mk (blk_below X2.out hb); clear B_2 C2 P2 X2 hb; have gs := (blk_cell C3.out.1 0).trans rfl; have o0 := (blk_cell P3.out 0).trans rfl; have x0 := (blk_cell X3.out 0).trans rfl; obtain ⟨a0, a1⟩ := kn_at0 C3.out.2.2 LP.out; obtain ⟨n0, n1⟩ := kn_at2 C3.out.2.2 m LM.out))
 go_quiet (first | (go_at_call 45; with_reducible exact Calls.quiet_of_same (Less_calls (gk l 0).1 x HK.out HX.out _)))
 obtain ⟨w4, hw4⟩ : ∃ w4, w4 = w3.drewN nq := ⟨_, rfl⟩
 rw [← hw4]
 have hb : Below w3.heap.size w3 w4 := by rw [hw4]; exact pw_below_drewN (Below.refl _ _) nq
 clear hw4
 clear gs o0 x0 a0 a1 n0 n1
 have B_4 := Aside0.mk (below_step B_3.out hb)
 have C4 := Aside0.mk (C3.out.below hb)
 have P4 := Aside0.mk (blk_below P3.out hb)
 have X4 := Aside0.mk (blk_below X3.out hb)
 clear B_3 C3 P3 X3 hb
 have gs := (blk_cell C4.out.1 0).trans rfl
 have o0 := (blk_cell P4.out 0).trans rfl
 have x0 := (blk_cell X4.out 0).trans rfl
 obtain ⟨a0, a1⟩ := kn_at0 C4.out.2.2 LP.out
 obtain ⟨n0, n1⟩ := kn_at2 C4.out.2.2 m LM.out
 rw [c1]
 go_wp2
 go_quiet (first | (go_at_call 45; with_reducible exact Calls.quiet_of_same (Less_calls x (gk l m).1 HX.out HM.out _)))
 obtain ⟨w5, hw5⟩ : ∃ w5, w5 = w4.drewN nq := ⟨_, rfl⟩
 rw [← hw5]
 have hb : Below w4.heap.size w4 w5 := by rw [hw5]; exact pw_below_drewN (Below.refl _ _) nq
 clear hw5
 clear gs o0 x0 a0 a1 n0 n1
 have B_5 := Aside0.mk (below_step B_4.out hb)
 have C5 := Aside0.mk (C4.out.below hb)
 have P5 := Aside0.mk (blk_below P4.out hb)
 have X5 := Aside0.mk (blk_below X4.out hb)
 clear B_4 C4 P4 X4 hb
 have gs := (blk_cell C5.out.1 0).trans rfl
 have o0 := (blk_cell P5.out 0).trans rfl
 have x0 := (blk_cell X5.out 0).trans rfl
 obtain ⟨a0, a1⟩ := kn_at0 C5.out.2.2 LP.out
 obtain ⟨n0, n1⟩ := kn_at2 C5.out.2.2 m LM.out
 rw [c2]
 go_wp2_with (go_at_call 46; have hS := Search_calls 47 #[.pointer (some ⟨bc, 0, none⟩), .pointer (some ⟨bx, 0, none⟩)] m (fun i => !lt (gk l i).1 x) w5 eg.out (by have := HV.out.most; have := HE.out; omega) (fun W i hi hb => closure47_calls bc bx g (some ad) c l HV.out.ok x i HX.out (by have := HE.out; omega) W (C5.out.below hb) ((blk_cell (blk_below P5.out hb) 0).trans rfl) ((blk_cell (blk_below X5.out hb) 0).trans rfl)); refine hS.mono ?_; clear hS; rintro e w6 ⟨r2, rfl, hb, hs⟩; have hr2 : fidx l x = r2 := (srch_fidx HV.out c1 C2'.out (by rw [show l.length - 1 = m by have := HE.out; omega]; exact hs)).1; obtain rfl : r = r2 := hr.symm.trans hr2; clear hs hr2; clear gs o0 x0 a0 a1 n0 n1; have B_6 := Aside0.mk (below_step B_5.out hb); have C6 := Aside0.mk (C5.out.below hb); have P6 := Aside0.mk (blk_below P5.out hb); have X6 := Aside0.mk (blk_below X5.out hb); clear B_5 C5 P5 X5 hb; have gs := (blk_cell C6.out.1 0).trans rfl; have o0 := (blk_cell P6.out 0).trans rfl; have x0 := (blk_cell X6.out 0).trans rfl; obtain ⟨a0, a1⟩ := kn_at0 C6.out.2.2 LP.out; obtain ⟨n0, n1⟩ := kn_at2 C6.out.2.2 m LM.out; obtain ⟨r0, r1⟩ := kn_at2 C6.out.2.2 r LR.out)
 go_quiet (first | (go_at_call 48; with_reducible exact Calls.quiet_of_same (Equal_calls (gk l r).1 x HR.out HX.out _)))
 obtain ⟨w7, hw7⟩ : ∃ w7, w7 = w6.drewN nq := ⟨_, rfl⟩
 rw [← hw7]
 have hb : Below w6.heap.size w6 w7 := by rw [hw7]; exact pw_below_drewN (Below.refl _ _) nq
 clear hw7
 clear gs o0 x0 a0 a1 n0 n1 r0 r1
 have B_7 := Aside0.mk (below_step B_6.out hb)
 have C7 := Aside0.mk (C6.out.below hb)
 have P7 := Aside0.mk (blk_below P6.out hb)
 have X7 := Aside0.mk (blk_below X6.out hb)
 clear B_6 C6 P6 X6 hb
 have gs := (blk_cell C7.out.1 0).trans rfl
 have o0 := (blk_cell P7.out 0).trans rfl
 have x0 := (blk_cell X7.out 0).trans rfl
 obtain ⟨a0, a1⟩ := kn_at0 C7.out.2.2 LP.out
 obtain ⟨n0, n1⟩ := kn_at2 C7.out.2.2 m LM.out
 obtain ⟨r0, r1⟩ := kn_at2 C7.out.2.2 r LR.out
 rw [c3]
 go_wp2
 go_ret
 exact ⟨rfl, B_7.out⟩
set_option maxHeartbeats 4000000 in
theorem At_btw (g : Nat) (A : Option Addr) (c : Nat) (l : List (Nat × Nat)) (hv : Val l) (x : Nat) (hx : x < 4294967296) (w : World) (hC : CvB w g A c l) (c0 : isnan x = false) (c1 : lt (gk l 0).1 x = true) (c2 : lt x (gk l (l.length - 1)).1 = true) (c3 : eqv (gk l (fidx l x)).1 x = false) :
    Calls Try.prog 17 #[.pointer (some ⟨g, 0, none⟩), .int .u32 (x : Int)] w fun e w' => e = .returned (.int .u32 ((btv (gk l (fidx l x - 1)) (gk l (fidx l x)) x : Nat) : Int)) ∧ Below w.heap.size w w' := by
 obtain ⟨m, hm⟩ : ∃ m, l.length = m + 1 := ⟨l.length - 1, by have := hv.two; omega⟩
 have hC0 := hC.2.2
 obtain ⟨ad, rfl, _⟩ := kn_at hC0 0 (by omega)
 obtain ⟨f1, f2, f3, f4⟩ := fidx_ok hv c1 c2
 rw [show l.length - 1 = m by omega] at c2
 have LP : Aside0 (0 < l.length) := ⟨by omega⟩
 have LM : Aside0 (m < l.length) := ⟨by omega⟩
 have h64 := hv.most
 have d1 : decide ((0 : Int) ≤ (m : Int)) = true := decide_eq_true (by omega)
 have d2 : decide ((m : Int) < (l.length : Int)) = true := decide_eq_true (by omega)
 have d3 : decide ((0 : Int) < (l.length : Int)) = true := decide_eq_true (by omega)
 have d4 : (0 < l.length) = True := eq_true (by omega)
 have d5 : ((0 : Int) ≤ (m : Int)) = True := eq_true (by omega)
 have d6 : ((m : Int) < (l.length : Int)) = True := eq_true (by omega)
 have d7 : (m < l.length) = True := eq_true (by omega)
 have wn : IntKind.i64.wrap ((l.length : Int) - 1) = (m : Int) := by rw [show IntKind.i64.wrap ((l.length : Int) - 1) = wrap64 ((l.length : Int) - 1) from i64_w _, w64 (by omega) (by omega)]; omega
 have HX : Aside0 _ := ⟨hx⟩
 have HK : Aside0 _ := ⟨(gk_ok hv.ok 0).1⟩
 have HM : Aside0 _ := ⟨(gk_ok hv.ok m).1⟩
 have C0 : Aside0 (CvB w g (some ad) c l) := ⟨hC⟩
 have B_0 : Aside0 (Below w.heap.size w w) := ⟨Below.refl _ _⟩
 have HV : Aside0 (Val l) := ⟨hv⟩
 have HE : Aside0 (l.length = m + 1) := ⟨hm⟩
 clear hC hC0 hx hv h64 hm
 obtain ⟨r, hr⟩ : ∃ r, fidx l x = r := ⟨_, rfl⟩
 rw [hr] at f1 f2 f3 f4 c3 ⊢
 have e1 : decide ((0 : Int) ≤ (r : Int)) = true := decide_eq_true (by omega)
 have e2 : decide ((r : Int) < (l.length : Int)) = true := decide_eq_true (by omega)
 have e5 : ((0 : Int) ≤ (r : Int)) = True := eq_true (by omega)
 have e6 : ((r : Int) < (l.length : Int)) = True := eq_true (by omega)
 have e7 : (r < l.length) = True := eq_true f2
 have LR : Aside0 (r < l.length) := ⟨f2⟩
 have HR : Aside0 _ := ⟨(gk_ok HV.out.ok r).1⟩
 have C2' : Aside0 (lt x (gk l (l.length - 1)).1 = true) := ⟨by rw [show l.length - 1 = m by have := HE.out; omega]; exact c2⟩
 have eg : Aside0 (∀ args w, (callFunc 47 args).run Try.prog w = .ok (.enter 47 args) w) := ⟨enters_of Try.func47 (by kernel_rfl) rfl⟩
 obtain ⟨q, hq⟩ : ∃ q, r = q + 1 := ⟨r - 1, by omega⟩
 have e8 : ((0 : Int) ≤ (q : Int)) = True := eq_true (by omega)
 have e9 : ((q : Int) < (l.length : Int)) = True := eq_true (by omega)
 have e10 : (q < l.length) = True := eq_true (by omega)
 have e11 : decide ((0 : Int) ≤ (q : Int)) = true := decide_eq_true (by omega)
 have e12 : decide ((q : Int) < (l.length : Int)) = true := decide_eq_true (by omega)
 have wq : IntKind.i64.wrap ((r : Int) - 1) = (q : Int) := by rw [show IntKind.i64.wrap ((r : Int) - 1) = wrap64 ((r : Int) - 1) from i64_w _, w64 (by have := HV.out.most; omega) (by have := HV.out.most; omega)]; omega
 have LQ : Aside0 (q < l.length) := ⟨by omega⟩
 rw [show r - 1 = q by omega] at f3 ⊢
 have hlt : lt x (gk l r).1 = true := by
  obtain ⟨z, hz⟩ := (HV.out.fin r f2).1
  exact eqv_false_lt hz.ok.1 c0 f4 c3
 have HC : Aside0 (∀ w, Calls Try.prog 49 #[.agg #[.int .u32 ((gk l q).1 : Int), .int .u32 ((gk l q).2 : Int)], .agg #[.int .u32 ((gk l r).1 : Int), .int .u32 ((gk l r).2 : Int)], .int .u32 (x : Int)] w fun e w' => e = .returned (.int .u32 ((btv (gk l q) (gk l r) x : Nat) : Int)) ∧ Below w.heap.size w w') := by
  subst hq
  exact ⟨btv_calls HV.out HX.out f2 f3 hlt⟩
 clear hlt hq
 go_enter Try.func17, Try.ntmps17
 go_wp2_with (first | ((with_reducible refine gate_dst (N := 2) rfl ?_); refine box_event ?hg (N := 2) ?hd (cs := #[.pointer (some ⟨g, 0, none⟩)]) (t := 26) ?hr ?_; (case hd => rfl); (case hg => rfl); (case hr => first | (go_simp; done) | (go_simp; rfl)); intro bc hg_ w1 hm_ hb_; have B_1 := Aside0.mk (below_step B_0.out hb_); have C1 := Aside0.mk (C0.out.below hb_); have P1 := Aside0.mk (hm_); clear B_0 C0; clear hm_ hb_ hg_) | ((with_reducible refine gate_dst (N := 3) rfl ?_); refine box_event ?hg (N := 3) ?hd (cs := #[.int .u32 (x : Int)]) (t := 30) ?hr ?_; (case hd => rfl); (case hg => rfl); (case hr => first | (go_simp; done) | (go_simp; rfl)); intro bx hg_ w2 hm_ hb_; have B_2 := Aside0.mk (below_step B_1.out hb_); have C2 := Aside0.mk (C1.out.below hb_); have P2 := Aside0.mk (blk_below P1.out hb_); have X2 := Aside0.mk (hm_); clear B_1 C1 P1; have gs := (blk_cell C2.out.1 0).trans rfl; have o0 := (blk_cell P2.out 0).trans rfl; have x0 := (blk_cell X2.out 0).trans rfl; obtain ⟨a0, a1⟩ := kn_at0 C2.out.2.2 LP.out; obtain ⟨n0, n1⟩ := kn_at2 C2.out.2.2 m LM.out; clear hm_ hb_ hg_) | (go_at_call 44; (with_reducible refine (IsNaN_calls x HX.out _).mono ?_); rw [c0]; rintro e w3 ⟨rfl, hb⟩; clear gs o0 x0 a0 a1 n0 n1; have B_3 := Aside0.mk (below_step B_2.out hb); have C3 := Aside0.mk (C2.out.below hb); have P3 := Aside0.mk (blk_below P2.out hb); have X3 := Aside0.mk (blk_below X2.out hb); clear B_2 C2 P2 X2 hb; have gs := (blk_cell C3.out.1 0).trans rfl; have o0 := (blk_cell P3.out 0).trans rfl; have x0 := (blk_cell X3.out 0).trans rfl; obtain ⟨a0, a1⟩ := kn_at0 C3.out.2.2 LP.out; obtain ⟨n0, n1⟩ := kn_at2 C3.out.2.2 m LM.out))
 go_quiet (first | (go_at_call 45; with_reducible exact Calls.quiet_of_same (Less_calls (gk l 0).1 x HK.out HX.out _)))
 obtain ⟨w4, hw4⟩ : ∃ w4, w4 = w3.drewN nq := ⟨_, rfl⟩
 rw [← hw4]
 have hb : Below w3.heap.size w3 w4 := by rw [hw4]; exact pw_below_drewN (Below.refl _ _) nq
 clear hw4
 clear gs o0 x0 a0 a1 n0 n1
 have B_4 := Aside0.mk (below_step B_3.out hb)
 have C4 := Aside0.mk (C3.out.below hb)
 have P4 := Aside0.mk (blk_below P3.out hb)
 have X4 := Aside0.mk (blk_below X3.out hb)
 clear B_3 C3 P3 X3 hb
 have gs := (blk_cell C4.out.1 0).trans rfl
 have o0 := (blk_cell P4.out 0).trans rfl
 have x0 := (blk_cell X4.out 0).trans rfl
 obtain ⟨a0, a1⟩ := kn_at0 C4.out.2.2 LP.out
 obtain ⟨n0, n1⟩ := kn_at2 C4.out.2.2 m LM.out
 rw [c1]
 go_wp2
 go_quiet (first | (go_at_call 45; with_reducible exact Calls.quiet_of_same (Less_calls x (gk l m).1 HX.out HM.out _)))
 obtain ⟨w5, hw5⟩ : ∃ w5, w5 = w4.drewN nq := ⟨_, rfl⟩
 rw [← hw5]
 have hb : Below w4.heap.size w4 w5 := by rw [hw5]; exact pw_below_drewN (Below.refl _ _) nq
 clear hw5
 clear gs o0 x0 a0 a1 n0 n1
 have B_5 := Aside0.mk (below_step B_4.out hb)
 have C5 := Aside0.mk (C4.out.below hb)
 have P5 := Aside0.mk (blk_below P4.out hb)
 have X5 := Aside0.mk (blk_below X4.out hb)
 clear B_4 C4 P4 X4 hb
 have gs := (blk_cell C5.out.1 0).trans rfl
 have o0 := (blk_cell P5.out 0).trans rfl
 have x0 := (blk_cell X5.out 0).trans rfl
 obtain ⟨a0, a1⟩ := kn_at0 C5.out.2.2 LP.out
 obtain ⟨n0, n1⟩ := kn_at2 C5.out.2.2 m LM.out
 rw [c2]
 go_wp2_with (go_at_call 46; have hS := Search_calls 47 #[.pointer (some ⟨bc, 0, none⟩), .pointer (some ⟨bx, 0, none⟩)] m (fun i => !lt (gk l i).1 x) w5 eg.out (by have := HV.out.most; have := HE.out; omega) (fun W i hi hb => closure47_calls bc bx g (some ad) c l HV.out.ok x i HX.out (by have := HE.out; omega) W (C5.out.below hb) ((blk_cell (blk_below P5.out hb) 0).trans rfl) ((blk_cell (blk_below X5.out hb) 0).trans rfl)); refine hS.mono ?_; clear hS; rintro e w6 ⟨r2, rfl, hb, hs⟩; have hr2 : fidx l x = r2 := (srch_fidx HV.out c1 C2'.out (by rw [show l.length - 1 = m by have := HE.out; omega]; exact hs)).1; obtain rfl : r = r2 := hr.symm.trans hr2; clear hs hr2; clear gs o0 x0 a0 a1 n0 n1; have B_6 := Aside0.mk (below_step B_5.out hb); have C6 := Aside0.mk (C5.out.below hb); have P6 := Aside0.mk (blk_below P5.out hb); have X6 := Aside0.mk (blk_below X5.out hb); clear B_5 C5 P5 X5 hb; have gs := (blk_cell C6.out.1 0).trans rfl; have o0 := (blk_cell P6.out 0).trans rfl; have x0 := (blk_cell X6.out 0).trans rfl; obtain ⟨a0, a1⟩ := kn_at0 C6.out.2.2 LP.out; obtain ⟨n0, n1⟩ := kn_at2 C6.out.2.2 m LM.out; obtain ⟨r0, r1⟩ := kn_at2 C6.out.2.2 r LR.out)
 go_quiet (first | (go_at_call 48; with_reducible exact Calls.quiet_of_same (Equal_calls (gk l r).1 x HR.out HX.out _)))
 obtain ⟨w7, hw7⟩ : ∃ w7, w7 = w6.drewN nq := ⟨_, rfl⟩
 rw [← hw7]
 have hb : Below w6.heap.size w6 w7 := by rw [hw7]; exact pw_below_drewN (Below.refl _ _) nq
 clear hw7
 clear gs o0 x0 a0 a1 n0 n1 r0 r1
 have B_7 := Aside0.mk (below_step B_6.out hb)
 have C7 := Aside0.mk (C6.out.below hb)
 have P7 := Aside0.mk (blk_below P6.out hb)
 have X7 := Aside0.mk (blk_below X6.out hb)
 clear B_6 C6 P6 X6 hb
 have gs := (blk_cell C7.out.1 0).trans rfl
 have o0 := (blk_cell P7.out 0).trans rfl
 have x0 := (blk_cell X7.out 0).trans rfl
 obtain ⟨a0, a1⟩ := kn_at0 C7.out.2.2 LP.out
 obtain ⟨n0, n1⟩ := kn_at2 C7.out.2.2 m LM.out
 obtain ⟨r0, r1⟩ := kn_at2 C7.out.2.2 r LR.out
 obtain ⟨q0, q1⟩ := kn_at2 C7.out.2.2 q LQ.out
 rw [c3]
 go_wp2
 refine start_ (n := 18) (S := fun w' => w'.cell? ⟨g, 0, none⟩ = some (.slice (some ad) l.length c) ∧ w'.cell? ⟨bc, 0, none⟩ = some (.pointer (some ⟨g, 0, none⟩)) ∧ w'.cell? ⟨bx, 0, none⟩ = some (.int .u32 (x : Int)) ∧ w'.cell? (ad.add (r * 2)) = some (.int .u32 ((gk l r).1 : Int)) ∧ w'.cell? ⟨(ad.add (r * 2)).block, (ad.add (r * 2)).off + 1, none⟩ = some (.int .u32 ((gk l r).2 : Int)) ∧ w'.cell? (ad.add (q * 2)) = some (.int .u32 ((gk l q).1 : Int)) ∧ w'.cell? ⟨(ad.add (q * 2)).block, (ad.add (q * 2)).off + 1, none⟩ = some (.int .u32 ((gk l q).2 : Int))) (ds := [16]) #[ff_,ff_,ff_,ff_,ff_,ff_,ff_,ff_,ff_,ff_,ff_,ff_,ff_,ff_,ff_,ff_,ff_,ff_] (by kernel_rfl) rfl rfl ⟨gs, o0, x0, r0, r1, q0, q1⟩ (fun hHeld => ?_)
 refine pure_ (i := 4) (N := some 79) (v := ?_) (a' := ?_) #[ff_,ff_,ff_,ff_,tt_,ff_,ff_,ff_,ff_,ff_,ff_,ff_,ff_,ff_,ff_,ff_,ff_,ff_] rfl rfl (by kernel_rfl) (fun _ _ _ h => h) (Or.inl ⟨by rfl, ?_⟩) ?_ ?_
 rotate_left
 ·intro w'
  go_simp
  with_reducible rfl
 rotate_left
 ·simp only [Act.put, List.setIfInBounds_toArray, List.set_cons_zero, List.set_cons_succ, i64_w, i32_w]
  rfl
 refine pure_ (i := 5) (N := some 80) (v := ?_) (a' := ?_) #[ff_,ff_,ff_,ff_,tt_,tt_,ff_,ff_,ff_,ff_,ff_,ff_,ff_,ff_,ff_,ff_,ff_,ff_] rfl rfl (by kernel_rfl) (fun _ _ _ h => h) (Or.inl ⟨by rfl, ?_⟩) ?_ ?_
 rotate_left
 ·intro w'
  go_simp
  with_reducible rfl
 rotate_left
 ·simp only [Act.put, List.setIfInBounds_toArray, List.set_cons_zero, List.set_cons_succ, i64_w, i32_w]
  rfl
 refine pure_ (i := 12) (N := some 87) (v := ?_) (a' := ?_) #[ff_,ff_,ff_,ff_,tt_,tt_,ff_,ff_,ff_,ff_,ff_,ff_,tt_,ff_,ff_,ff_,ff_,ff_] rfl rfl (by kernel_rfl) (fun _ _ _ h => h) (Or.inl ⟨by rfl, ?_⟩) ?_ ?_
 rotate_left
 ·intro w'
  go_simp
  with_reducible rfl
 rotate_left
 ·simp only [Act.put, List.setIfInBounds_toArray, List.set_cons_zero, List.set_cons_succ, i64_w, i32_w]
  rfl
 refine take_ (i := 0) (N := some 75) (v := ?_) (a' := ?_) #[tt_,ff_,ff_,ff_,tt_,tt_,ff_,ff_,ff_,ff_,ff_,ff_,tt_,ff_,ff_,ff_,ff_,ff_] rfl rfl (by kernel_rfl) (fun _ _ _ h => h) (Or.inl ⟨by rfl, ?_⟩) hHeld ?_ ?_
 rotate_left
 ·rintro w' ⟨s0, s1, s2, s3, s4, s5, s6⟩
  go_simp
  with_reducible rfl
 rotate_left
 ·simp only [Act.put, List.setIfInBounds_toArray, List.set_cons_zero, List.set_cons_succ, i64_w, i32_w]
  rfl
 refine pure_ (i := 1) (N := some 76) (v := ?_) (a' := ?_) #[tt_,tt_,ff_,ff_,tt_,tt_,ff_,ff_,ff_,ff_,ff_,ff_,tt_,ff_,ff_,ff_,ff_,ff_] rfl rfl (by kernel_rfl) (fun _ _ _ h => h) (Or.inl ⟨by rfl, ?_⟩) ?_ ?_
 rotate_left
 ·intro w'
  go_simp
  with_reducible rfl
 rotate_left
 ·simp only [Act.put, List.setIfInBounds_toArray, List.set_cons_zero, List.set_cons_succ, i64_w, i32_w]
  rfl
 refine pure_ (i := 2) (N := some 77) (v := ?_) (a' := ?_) #[tt_,tt_,tt_,ff_,tt_,tt_,ff_,ff_,ff_,ff_,ff_,ff_,tt_,ff_,ff_,ff_,ff_,ff_] rfl rfl (by kernel_rfl) (fun _ _ _ h => h) (Or.inl ⟨by rfl, ?_⟩) ?_ ?_
 rotate_left
 ·intro w'
  go_simp
  with_reducible rfl
 rotate_left
 ·simp only [Act.put, List.setIfInBounds_toArray, List.set_cons_zero, List.set_cons_succ, i64_w, i32_w]
  rfl
 refine take_ (i := 3) (N := some 78) (v := ?_) (a' := ?_) #[tt_,tt_,tt_,tt_,tt_,tt_,ff_,ff_,ff_,ff_,ff_,ff_,tt_,ff_,ff_,ff_,ff_,ff_] rfl rfl (by kernel_rfl) (fun _ _ _ h => h) (Or.inl ⟨by rfl, ?_⟩) hHeld ?_ ?_
 rotate_left
 ·rintro w' ⟨s0, s1, s2, s3, s4, s5, s6⟩
  go_simp
  with_reducible rfl
 rotate_left
 ·simp only [Act.put, List.setIfInBounds_toArray, List.set_cons_zero, List.set_cons_succ, i64_w, i32_w]
  rfl
 refine pure_ (i := 6) (N := some 81) (v := ?_) (a' := ?_) #[tt_,tt_,tt_,tt_,tt_,tt_,tt_,ff_,ff_,ff_,ff_,ff_,tt_,ff_,ff_,ff_,ff_,ff_] rfl rfl (by kernel_rfl) (fun _ _ _ h => h) (Or.inl ⟨by rfl, ?_⟩) ?_ ?_
 rotate_left
 ·intro w'
  go_simp
  with_reducible rfl
 rotate_left
 ·simp only [Act.put, List.setIfInBounds_toArray, List.set_cons_zero, List.set_cons_succ, i64_w, i32_w]
  rfl
 refine take_ (i := 7) (N := some 82) (v := ?_) (a' := ?_) #[tt_,tt_,tt_,tt_,tt_,tt_,tt_,tt_,ff_,ff_,ff_,ff_,tt_,ff_,ff_,ff_,ff_,ff_] rfl rfl (by kernel_rfl) (fun _ _ _ h => h) (Or.inl ⟨by rfl, ?_⟩) hHeld ?_ ?_
 rotate_left
 ·rintro w' ⟨s0, s1, s2, s3, s4, s5, s6⟩
  go_simp
  with_reducible rfl
 rotate_left
 ·simp only [Act.put, List.setIfInBounds_toArray, List.set_cons_zero, List.set_cons_succ, i64_w, i32_w]
  rfl
 refine take_ (i := 8) (N := some 83) (v := ?_) (a' := ?_) #[tt_,tt_,tt_,tt_,tt_,tt_,tt_,tt_,tt_,ff_,ff_,ff_,tt_,ff_,ff_,ff_,ff_,ff_] rfl rfl (by kernel_rfl) (fun _ _ _ h => h) (Or.inl ⟨by rfl, ?_⟩) hHeld ?_ ?_
 rotate_left
 ·rintro w' ⟨s0, s1, s2, s3, s4, s5, s6⟩
  go_simp
  with_reducible rfl
 rotate_left
 ·simp only [Act.put, List.setIfInBounds_toArray, List.set_cons_zero, List.set_cons_succ, i64_w, i32_w]
  rfl
 refine pure_ (i := 9) (N := some 84) (v := ?_) (a' := ?_) #[tt_,tt_,tt_,tt_,tt_,tt_,tt_,tt_,tt_,tt_,ff_,ff_,tt_,ff_,ff_,ff_,ff_,ff_] rfl rfl (by kernel_rfl) (fun _ _ _ h => h) (Or.inl ⟨by rfl, ?_⟩) ?_ ?_
 rotate_left
 ·intro w'
  go_simp
  with_reducible rfl
 rotate_left
 ·simp only [Act.put, List.setIfInBounds_toArray, List.set_cons_zero, List.set_cons_succ, i64_w, i32_w]
  rfl
 refine pure_ (i := 10) (N := some 85) (v := ?_) (a' := ?_) #[tt_,tt_,tt_,tt_,tt_,tt_,tt_,tt_,tt_,tt_,tt_,ff_,tt_,ff_,ff_,ff_,ff_,ff_] rfl rfl (by kernel_rfl) (fun _ _ _ h => h) (Or.inl ⟨by rfl, ?_⟩) ?_ ?_
 rotate_left
 ·intro w'
  go_simp
  with_reducible rfl
 rotate_left
 ·simp only [Act.put, List.setIfInBounds_toArray, List.set_cons_zero, List.set_cons_succ, i64_w, i32_w]
  rfl
 refine take_ (i := 11) (N := some 86) (v := ?_) (a' := ?_) #[tt_,tt_,tt_,tt_,tt_,tt_,tt_,tt_,tt_,tt_,tt_,tt_,tt_,ff_,ff_,ff_,ff_,ff_] rfl rfl (by kernel_rfl) (fun _ _ _ h => h) (Or.inl ⟨by rfl, ?_⟩) hHeld ?_ ?_
 rotate_left
 ·rintro w' ⟨s0, s1, s2, s3, s4, s5, s6⟩
  go_simp
  with_reducible rfl
 rotate_left
 ·simp only [Act.put, List.setIfInBounds_toArray, List.set_cons_zero, List.set_cons_succ, i64_w, i32_w]
  rfl
 refine pure_ (i := 13) (N := some 88) (v := ?_) (a' := ?_) #[tt_,tt_,tt_,tt_,tt_,tt_,tt_,tt_,tt_,tt_,tt_,tt_,tt_,tt_,ff_,ff_,ff_,ff_] rfl rfl (by kernel_rfl) (fun _ _ _ h => h) (Or.inl ⟨by rfl, ?_⟩) ?_ ?_
 rotate_left
 ·intro w'
  go_simp
  with_reducible rfl
 rotate_left
 ·simp only [Act.put, List.setIfInBounds_toArray, List.set_cons_zero, List.set_cons_succ, i64_w, i32_w]
  rfl
 refine take_ (i := 14) (N := some 89) (v := ?_) (a' := ?_) #[tt_,tt_,tt_,tt_,tt_,tt_,tt_,tt_,tt_,tt_,tt_,tt_,tt_,tt_,tt_,ff_,ff_,ff_] rfl rfl (by kernel_rfl) (fun _ _ _ h => h) (Or.inl ⟨by rfl, ?_⟩) hHeld ?_ ?_
 rotate_left
 ·rintro w' ⟨s0, s1, s2, s3, s4, s5, s6⟩
  go_simp
  with_reducible rfl
 rotate_left
 ·simp only [Act.put, List.setIfInBounds_toArray, List.set_cons_zero, List.set_cons_succ, i64_w, i32_w]
  rfl
 refine take_ (i := 15) (N := some 90) (v := ?_) (a' := ?_) #[tt_,tt_,tt_,tt_,tt_,tt_,tt_,tt_,tt_,tt_,tt_,tt_,tt_,tt_,tt_,tt_,ff_,ff_] rfl rfl (by kernel_rfl) (fun _ _ _ h => h) (Or.inl ⟨by rfl, ?_⟩) hHeld ?_ ?_
 rotate_left
 ·rintro w' ⟨s0, s1, s2, s3, s4, s5, s6⟩
  go_simp
  with_reducible rfl
 rotate_left
 ·simp only [Act.put, List.setIfInBounds_toArray, List.set_cons_zero, List.set_cons_succ, i64_w, i32_w]
  rfl
 refine last_ (i := 16) (N := some 91) #[tt_,tt_,tt_,tt_,tt_,tt_,tt_,tt_,tt_,tt_,tt_,tt_,tt_,tt_,tt_,tt_,tt_,ff_] rfl rfl (by kernel_rfl) (by decide) (fun K hK => ?_)
 refine goes_ Try.func49 (by kernel_rfl) rfl #[.agg #[.int .u32 ((gk l q).1 : Int), .int .u32 ((gk l q).2 : Int)], .agg #[.int .u32 ((gk l r).1 : Int), .int .u32 ((gk l r).2 : Int)], .int .u32 (x : Int)] (by rfl) rfl rfl (by (try simp only [List.map_toArray, List.map_cons, List.map_nil]); rfl) ?_
 refine (HC.out _).mono ?_
 rintro e w8 ⟨rfl, hb⟩
 refine ⟨_, rfl, ?_⟩
 have B_8 := Aside0.mk (below_step (below_drew B_7.out) hb)
 clear hb
 refine hK.out _ _ ?_
 clear hK K
 refine norm_ (a' := ?_) ?_ ?_
 rotate_left
 ·show Act.put _ (some 91) _ = _
  simp only [Act.put, List.setIfInBounds_toArray, List.set_cons_zero, List.set_cons_succ, i64_w, i32_w]
  rfl
 refine pure_ (i := 17) (N := some 4) (v := ?_) (a' := ?_) #[tt_,tt_,tt_,tt_,tt_,tt_,tt_,tt_,tt_,tt_,tt_,tt_,tt_,tt_,tt_,tt_,tt_,tt_] rfl rfl (by kernel_rfl) (fun _ _ _ h => h) (Or.inl ⟨by rfl, ?_⟩) ?_ ?_
 rotate_left
 ·intro w'
  go_simp
  with_reducible rfl
 rotate_left
 ·simp only [Act.put, List.setIfInBounds_toArray, List.set_cons_zero, List.set_cons_succ, i64_w, i32_w]
  rfl
 refine done_ (by kernel_rfl) ?_
 go_wp2
 go_ret
 exact ⟨rfl, B_8.out⟩
theorem At_calls (g : Nat) (A : Option Addr) (c : Nat) (l : List (Nat × Nat)) (hv : Val l) (x : Nat) (hx : x < 4294967296) (w : World) (hC : CvB w g A c l) :
    Calls Try.prog 17 #[.pointer (some ⟨g, 0, none⟩), .int .u32 (x : Int)] w fun e w' => e = .returned (.int .u32 ((atP l x : Nat) : Int)) ∧ Below w.heap.size w w' := by
 unfold atP atS
 cases c0 : isnan x
 ·rw [if_neg (by decide)]
  cases c1 : lt (gk l 0).1 x
  ·rw [if_pos rfl]; exact At_low g A c l hv x hx w hC c0 c1
  ·rw [if_neg (by decide)]
   cases c2 : lt x (gk l (l.length - 1)).1
   ·rw [if_pos rfl]; exact At_high g A c l hv x hx w hC c0 c1 c2
   ·rw [if_neg (by decide)]
    cases c3 : eqv (gk l (fidx l x)).1 x
    ·rw [if_neg (by decide)]; exact At_btw g A c l hv x hx w hC c0 c1 c2 c3
    ·rw [if_pos rfl]; exact At_eq g A c l hv x hx w hC c0 c1 c2 c3
 ·rw [if_pos rfl]; exact At_nan g A c l hv x hx w hC c0
end Go.Proofs.Ytkicfaboibfbpaa.A
end
section
set_option linter.unusedVariables false
set_option linter.unusedSimpArgs false
namespace Go.Proofs.Ytkicfaboibfbpaa.A
open Go.RowKit Go.Proofs.YtkicfaboibfbpaaW.PrintWords Go.Proofs.YtkicfaboibfbpaaW.PrintLast Go.Proofs.YtkicfaboibfbpaaW.PrintMore Go.Proofs.Ytkicfaboibfbpaa.PCurveAts
set_option maxHeartbeats 4000000 in
theorem rAt_nan (A : Option Addr) (c : Nat) (l : List (Nat × Nat)) (hv : Val l) (x : Nat) (hx : x < 4294967296) (w : World) (hc : l.length ≤ c) (hK : Kn w A l) (c0 : isnan x = true) :
    Calls Try.prog 18 #[.slice A l.length c, .int .u32 (x : Int)] w fun e w' => e = .returned (.int .u32 ((made : Nat) : Int)) ∧ Below w.heap.size w w' := by
 obtain ⟨m, hm⟩ : ∃ m, l.length = m + 1 := ⟨l.length - 1, by have := hv.two; omega⟩
 obtain ⟨ad, rfl, _⟩ := kn_at hK 0 (by omega)
 have h64 := hv.most
 have d1 : decide ((0 : Int) ≤ (m : Int)) = true := decide_eq_true (by omega)
 have d2 : decide ((m : Int) < (l.length : Int)) = true := decide_eq_true (by omega)
 have d3 : decide ((0 : Int) < (l.length : Int)) = true := decide_eq_true (by omega)
 have d4 : (0 < l.length) = True := eq_true (by omega)
 have d5 : ((0 : Int) ≤ (m : Int)) = True := eq_true (by omega)
 have d6 : ((m : Int) < (l.length : Int)) = True := eq_true (by omega)
 have d7 : (m < l.length) = True := eq_true (by omega)
 have wn : IntKind.i64.wrap ((l.length : Int) - 1) = (m : Int) := by rw [show IntKind.i64.wrap ((l.length : Int) - 1) = wrap64 ((l.length : Int) - 1) from i64_w _, w64 (by omega) (by omega)]; omega
 obtain ⟨a0, a1⟩ := kn_at0 hK (by omega)
 obtain ⟨n0, n1⟩ := kn_at2 hK m (by omega)
 have HX : Aside0 _ := ⟨hx⟩
 have HK : Aside0 _ := ⟨(gk_ok hv.ok 0).1⟩
 have HM : Aside0 _ := ⟨(gk_ok hv.ok m).1⟩
 have HV : Aside0 (Val l) := ⟨hv⟩
 have HE : Aside0 (l.length = m + 1) := ⟨hm⟩
 have HN : Aside0 (Kn w (some ad) l) := ⟨hK⟩
 have B_0 : Aside0 (Below w.heap.size w w) := ⟨Below.refl _ _⟩
 clear hK hx hv h64 hm hc
 go_enter Try.func18, Try.ntmps18
 go_wp2_with (first | (go_at_call 37; (with_reducible refine (rNaN_calls x HX.out _).mono ?_); rw [c0]; rintro e _ ⟨rfl, nd, rfl⟩))
 go_ret
 exact ⟨rfl, by repeat (first | exact B_0.out | apply pw_below_drewN)⟩
set_option maxHeartbeats 4000000 in
theorem rAt_low (A : Option Addr) (c : Nat) (l : List (Nat × Nat)) (hv : Val l) (x : Nat) (hx : x < 4294967296) (w : World) (hc : l.length ≤ c) (hK : Kn w A l) (c0 : isnan x = false) (c1 : lt (gk l 0).1 x = false) :
    Calls Try.prog 18 #[.slice A l.length c, .int .u32 (x : Int)] w fun e w' => e = .returned (.int .u32 (((gk l 0).2 : Nat) : Int)) ∧ Below w.heap.size w w' := by
 obtain ⟨m, hm⟩ : ∃ m, l.length = m + 1 := ⟨l.length - 1, by have := hv.two; omega⟩
 obtain ⟨ad, rfl, _⟩ := kn_at hK 0 (by omega)
 have h64 := hv.most
 have d1 : decide ((0 : Int) ≤ (m : Int)) = true := decide_eq_true (by omega)
 have d2 : decide ((m : Int) < (l.length : Int)) = true := decide_eq_true (by omega)
 have d3 : decide ((0 : Int) < (l.length : Int)) = true := decide_eq_true (by omega)
 have d4 : (0 < l.length) = True := eq_true (by omega)
 have d5 : ((0 : Int) ≤ (m : Int)) = True := eq_true (by omega)
 have d6 : ((m : Int) < (l.length : Int)) = True := eq_true (by omega)
 have d7 : (m < l.length) = True := eq_true (by omega)
 have wn : IntKind.i64.wrap ((l.length : Int) - 1) = (m : Int) := by rw [show IntKind.i64.wrap ((l.length : Int) - 1) = wrap64 ((l.length : Int) - 1) from i64_w _, w64 (by omega) (by omega)]; omega
 obtain ⟨a0, a1⟩ := kn_at0 hK (by omega)
 obtain ⟨n0, n1⟩ := kn_at2 hK m (by omega)
 have HX : Aside0 _ := ⟨hx⟩
 have HK : Aside0 _ := ⟨(gk_ok hv.ok 0).1⟩
 have HM : Aside0 _ := ⟨(gk_ok hv.ok m).1⟩
 have HV : Aside0 (Val l) := ⟨hv⟩
 have HE : Aside0 (l.length = m + 1) := ⟨hm⟩
 have HN : Aside0 (Kn w (some ad) l) := ⟨hK⟩
 have B_0 : Aside0 (Below w.heap.size w w) := ⟨Below.refl _ _⟩
 clear hK hx hv h64 hm hc
 go_enter Try.func18, Try.ntmps18
 go_wp2_with (first | (go_at_call 37; (with_reducible refine (rNaN_calls x HX.out _).mono ?_); rw [c0]; rintro e _ ⟨rfl, nd, rfl⟩) | (go_at_call 38; (with_reducible refine (rBelow_calls (gk l 0).1 x HK.out HX.out _).mono ?_); rw [c1]; rintro e _ ⟨rfl, nd, rfl⟩))
 go_ret
 exact ⟨rfl, by repeat (first | exact B_0.out | apply pw_below_drewN)⟩
set_option maxHeartbeats 4000000 in
theorem rAt_high (A : Option Addr) (c : Nat) (l : List (Nat × Nat)) (hv : Val l) (x : Nat) (hx : x < 4294967296) (w : World) (hc : l.length ≤ c) (hK : Kn w A l) (c0 : isnan x = false) (c1 : lt (gk l 0).1 x = true) (c2 : lt x (gk l (l.length - 1)).1 = false) :
    Calls Try.prog 18 #[.slice A l.length c, .int .u32 (x : Int)] w fun e w' => e = .returned (.int .u32 (((gk l (l.length - 1)).2 : Nat) : Int)) ∧ Below w.heap.size w w' := by
 obtain ⟨m, hm⟩ : ∃ m, l.length = m + 1 := ⟨l.length - 1, by have := hv.two; omega⟩
 obtain ⟨ad, rfl, _⟩ := kn_at hK 0 (by omega)
 have h64 := hv.most
 have d1 : decide ((0 : Int) ≤ (m : Int)) = true := decide_eq_true (by omega)
 have d2 : decide ((m : Int) < (l.length : Int)) = true := decide_eq_true (by omega)
 have d3 : decide ((0 : Int) < (l.length : Int)) = true := decide_eq_true (by omega)
 have d4 : (0 < l.length) = True := eq_true (by omega)
 have d5 : ((0 : Int) ≤ (m : Int)) = True := eq_true (by omega)
 have d6 : ((m : Int) < (l.length : Int)) = True := eq_true (by omega)
 have d7 : (m < l.length) = True := eq_true (by omega)
 have wn : IntKind.i64.wrap ((l.length : Int) - 1) = (m : Int) := by rw [show IntKind.i64.wrap ((l.length : Int) - 1) = wrap64 ((l.length : Int) - 1) from i64_w _, w64 (by omega) (by omega)]; omega
 obtain ⟨a0, a1⟩ := kn_at0 hK (by omega)
 obtain ⟨n0, n1⟩ := kn_at2 hK m (by omega)
 have HX : Aside0 _ := ⟨hx⟩
 have HK : Aside0 _ := ⟨(gk_ok hv.ok 0).1⟩
 have HM : Aside0 _ := ⟨(gk_ok hv.ok m).1⟩
 have HV : Aside0 (Val l) := ⟨hv⟩
 have HE : Aside0 (l.length = m + 1) := ⟨hm⟩
 have HN : Aside0 (Kn w (some ad) l) := ⟨hK⟩
 have B_0 : Aside0 (Below w.heap.size w w) := ⟨Below.refl _ _⟩
 rw [show l.length - 1 = m by omega] at c2 ⊢
 clear hK hx hv h64 hm hc
 go_enter Try.func18, Try.ntmps18
 go_wp2_with (first | (go_at_call 37; (with_reducible refine (rNaN_calls x HX.out _).mono ?_); rw [c0]; rintro e _ ⟨rfl, nd, rfl⟩) | (go_at_call 38; (with_reducible refine (rBelow_calls (gk l 0).1 x HK.out HX.out _).mono ?_); rw [c1]; rintro e _ ⟨rfl, nd, rfl⟩) | (go_at_call 38; (with_reducible refine (rBelow_calls x (gk l m).1 HX.out HM.out _).mono ?_); rw [c2]; rintro e _ ⟨rfl, nd, rfl⟩))
 go_ret
 exact ⟨rfl, by repeat (first | exact B_0.out | apply pw_below_drewN)⟩
theorem eqv_comm (a b : Nat) : eqv a b = eqv b a := by
 unfold eqv
 rw [Bool.and_comm (!isnan a)]
 congr 1
 rw [decide_eq_decide]
 exact ⟨Eq.symm, Eq.symm⟩
set_option maxHeartbeats 4000000 in
theorem rAt_eq (A : Option Addr) (c : Nat) (l : List (Nat × Nat)) (hv : Val l) (x : Nat) (hx : x < 4294967296) (w : World) (hc : l.length ≤ c) (hK : Kn w A l) (c0 : isnan x = false) (c1 : lt (gk l 0).1 x = true) (c2 : lt x (gk l (l.length - 1)).1 = true) (c3 : eqv (gk l (fidx l x)).1 x = true) :
    Calls Try.prog 18 #[.slice A l.length c, .int .u32 (x : Int)] w fun e w' => e = .returned (.int .u32 (((gk l (fidx l x)).2 : Nat) : Int)) ∧ Below w.heap.size w w' := by
 obtain ⟨m, hm⟩ : ∃ m, l.length = m + 1 := ⟨l.length - 1, by have := hv.two; omega⟩
 obtain ⟨ad, rfl, _⟩ := kn_at hK 0 (by omega)
 have h64 := hv.most
 have d1 : decide ((0 : Int) ≤ (m : Int)) = true := decide_eq_true (by omega)
 have d2 : decide ((m : Int) < (l.length : Int)) = true := decide_eq_true (by omega)
 have d3 : decide ((0 : Int) < (l.length : Int)) = true := decide_eq_true (by omega)
 have d4 : (0 < l.length) = True := eq_true (by omega)
 have d5 : ((0 : Int) ≤ (m : Int)) = True := eq_true (by omega)
 have d6 : ((m : Int) < (l.length : Int)) = True := eq_true (by omega)
 have d7 : (m < l.length) = True := eq_true (by omega)
 have wn : IntKind.i64.wrap ((l.length : Int) - 1) = (m : Int) := by rw [show IntKind.i64.wrap ((l.length : Int) - 1) = wrap64 ((l.length : Int) - 1) from i64_w _, w64 (by omega) (by omega)]; omega
 obtain ⟨a0, a1⟩ := kn_at0 hK (by omega)
 obtain ⟨n0, n1⟩ := kn_at2 hK m (by omega)
 have HX : Aside0 _ := ⟨hx⟩
 have HK : Aside0 _ := ⟨(gk_ok hv.ok 0).1⟩
 have HM : Aside0 _ := ⟨(gk_ok hv.ok m).1⟩
 have HV : Aside0 (Val l) := ⟨hv⟩
 have HE : Aside0 (l.length = m + 1) := ⟨hm⟩
 have HN : Aside0 (Kn w (some ad) l) := ⟨hK⟩
 have B_0 : Aside0 (Below w.heap.size w w) := ⟨Below.refl _ _⟩
 obtain ⟨f1, f2, f3, f4⟩ := fidx_ok hv c1 c2
 rw [show l.length - 1 = m by omega] at c2
 obtain ⟨r, hr⟩ : ∃ r, fidx l x = r := ⟨_, rfl⟩
 rw [hr] at f1 f2 f3 f4 c3 ⊢
 have f5 : r ≤ m := by omega
 have FL : Aside0 (∀ i, i < r → lt (gk l i).1 x = true) := ⟨fun i hi => by
  rcases Nat.lt_or_eq_of_le (show i ≤ r - 1 by omega) with h3 | h3
  ·exact lt_trans (hv.mono h3 (by omega)) f3
  ·rw [h3]; exact f3⟩
 clear f3 f4 hr
 clear hK hx hv h64 hm hc
 go_enter Try.func18, Try.ntmps18
 go_wp2_with (first | (go_at_call 37; (with_reducible refine (rNaN_calls x HX.out _).mono ?_); rw [c0]; rintro e _ ⟨rfl, nd, rfl⟩) | (go_at_call 38; (with_reducible refine (rBelow_calls (gk l 0).1 x HK.out HX.out _).mono ?_); rw [c1]; rintro e _ ⟨rfl, nd, rfl⟩) | (go_at_call 38; (with_reducible refine (rBelow_calls x (gk l m).1 HX.out HM.out _).mono ?_); rw [c2]; rintro e _ ⟨rfl, nd, rfl⟩))
 go_loopg [6] (m + 1) (fun kx s6 wr => ∃ i : Nat, s6 = .int .i64 (i : Int) ∧ 1 ≤ i ∧ i ≤ r ∧ m + 1 - i ≤ kx ∧ Aside0 (Below w.heap.size w wr))
 case atStart => exact ⟨1, rfl, Nat.le_refl _, f1, by omega, ⟨by repeat (first | exact B_0.out | apply pw_below_drewN)⟩⟩
 case round =>
  obtain ⟨i, rfl, i1, i2, i3, HB⟩ := hrel
  have h64 := HV.out.most
  have hm := HE.out
  have e1 : decide ((0 : Int) ≤ (i : Int)) = true := decide_eq_true (by omega)
  have e2 : decide ((i : Int) < (l.length : Int)) = true := decide_eq_true (by omega)
  have e3 : decide ((i : Int) ≤ (m : Int)) = true := decide_eq_true (by omega)
  have e5 : ((0 : Int) ≤ (i : Int)) = True := eq_true (by omega)
  have e6 : ((i : Int) < (l.length : Int)) = True := eq_true (by omega)
  have e7 : (i < l.length) = True := eq_true (by omega)
  have e8 : ((i : Int) ≤ (m : Int)) = True := eq_true (by omega)
  have e9 : (i ≤ m) = True := eq_true (by omega)
  have wi : IntKind.i64.wrap ((i : Int) + 1) = ((i + 1 : Nat) : Int) := by rw [show IntKind.i64.wrap ((i : Int) + 1) = wrap64 ((i : Int) + 1) from i64_w _, w64 (by omega) (by omega)]; omega
  have HI : Aside0 _ := ⟨(gk_ok HV.out.ok i).1⟩
  obtain ⟨r0, r1⟩ := kn_at2 (HN.out.below HB.out) i (by omega)
  clear h64 hm
  by_cases hir : i < r
  ·have k1 := FL.out i hir
   have c5 : lt x (A.gk l i).1 = false := lt_asymm k1
   have c4 : eqv x (A.gk l i).1 = false := by
    unfold lt at k1
    unfold eqv
    simp only [Bool.and_eq_true, Bool.not_eq_true', decide_eq_true_eq] at k1
    rw [decide_eq_false (by omega), Bool.and_false]
   clear k1
   go_wp2_with (first | (go_at_call 25; (with_reducible refine (rSame_calls x (A.gk l i).1 HX.out HI.out _).mono ?_); rw [c4]; rintro e _ ⟨rfl, nd, rfl⟩) | (go_at_call 38; (with_reducible refine (rBelow_calls x (A.gk l i).1 HX.out HI.out _).mono ?_); rw [c5]; rintro e _ ⟨rfl, nd, rfl⟩))
   go_roundg (m + 1 - (i + 1))
   case measure => omega
   case rel => exact ⟨i + 1, by first | rfl | (congr 1; omega), by omega, by omega, by omega, ⟨by repeat (first | exact HB.out | apply pw_below_drewN)⟩⟩
  ·obtain rfl : i = r := by omega
   rw [eqv_comm] at c3
   go_wp2_with (first | (go_at_call 25; (with_reducible refine (rSame_calls x (A.gk l i).1 HX.out HI.out _).mono ?_); rw [c3]; rintro e _ ⟨rfl, nd, rfl⟩))
   go_ret
   exact ⟨rfl, by repeat (first | exact HB.out | apply pw_below_drewN)⟩
set_option maxHeartbeats 4000000 in
theorem rAt_btw (A : Option Addr) (c : Nat) (l : List (Nat × Nat)) (hv : Val l) (x : Nat) (hx : x < 4294967296) (w : World) (hc : l.length ≤ c) (hK : Kn w A l) (c0 : isnan x = false) (c1 : lt (gk l 0).1 x = true) (c2 : lt x (gk l (l.length - 1)).1 = true) (c3 : eqv (gk l (fidx l x)).1 x = false) :
    Calls Try.prog 18 #[.slice A l.length c, .int .u32 (x : Int)] w fun e w' => e = .returned (.int .u32 ((btv (gk l (fidx l x - 1)) (gk l (fidx l x)) x : Nat) : Int)) ∧ Below w.heap.size w w' := by
 obtain ⟨m, hm⟩ : ∃ m, l.length = m + 1 := ⟨l.length - 1, by have := hv.two; omega⟩
 obtain ⟨ad, rfl, _⟩ := kn_at hK 0 (by omega)
 have h64 := hv.most
 have d1 : decide ((0 : Int) ≤ (m : Int)) = true := decide_eq_true (by omega)
 have d2 : decide ((m : Int) < (l.length : Int)) = true := decide_eq_true (by omega)
 have d3 : decide ((0 : Int) < (l.length : Int)) = true := decide_eq_true (by omega)
 have d4 : (0 < l.length) = True := eq_true (by omega)
 have d5 : ((0 : Int) ≤ (m : Int)) = True := eq_true (by omega)
 have d6 : ((m : Int) < (l.length : Int)) = True := eq_true (by omega)
 have d7 : (m < l.length) = True := eq_true (by omega)
 have wn : IntKind.i64.wrap ((l.length : Int) - 1) = (m : Int) := by rw [show IntKind.i64.wrap ((l.length : Int) - 1) = wrap64 ((l.length : Int) - 1) from i64_w _, w64 (by omega) (by omega)]; omega
 obtain ⟨a0, a1⟩ := kn_at0 hK (by omega)
 obtain ⟨n0, n1⟩ := kn_at2 hK m (by omega)
 have HX : Aside0 _ := ⟨hx⟩
 have HK : Aside0 _ := ⟨(gk_ok hv.ok 0).1⟩
 have HM : Aside0 _ := ⟨(gk_ok hv.ok m).1⟩
 have HV : Aside0 (Val l) := ⟨hv⟩
 have HE : Aside0 (l.length = m + 1) := ⟨hm⟩
 have HN : Aside0 (Kn w (some ad) l) := ⟨hK⟩
 have B_0 : Aside0 (Below w.heap.size w w) := ⟨Below.refl _ _⟩
 obtain ⟨f1, f2, f3, f4⟩ := fidx_ok hv c1 c2
 rw [show l.length - 1 = m by omega] at c2
 obtain ⟨r, hr⟩ : ∃ r, fidx l x = r := ⟨_, rfl⟩
 rw [hr] at f1 f2 f3 f4 c3 ⊢
 have f5 : r ≤ m := by omega
 have FL : Aside0 (∀ i, i < r → lt (gk l i).1 x = true) := ⟨fun i hi => by
  rcases Nat.lt_or_eq_of_le (show i ≤ r - 1 by omega) with h3 | h3
  ·exact lt_trans (hv.mono h3 (by omega)) f3
  ·rw [h3]; exact f3⟩
 obtain ⟨q, hq⟩ : ∃ q, r = q + 1 := ⟨r - 1, by omega⟩
 have q8 : ((0 : Int) ≤ (q : Int)) = True := eq_true (by omega)
 have q9 : ((q : Int) < (l.length : Int)) = True := eq_true (by omega)
 have q10 : (q < l.length) = True := eq_true (by omega)
 have q11 : decide ((0 : Int) ≤ (q : Int)) = true := decide_eq_true (by omega)
 have q12 : decide ((q : Int) < (l.length : Int)) = true := decide_eq_true (by omega)
 have wq : IntKind.i64.wrap ((r : Int) - 1) = (q : Int) := by rw [show IntKind.i64.wrap ((r : Int) - 1) = wrap64 ((r : Int) - 1) from i64_w _, w64 (by omega) (by omega)]; omega
 have LQ : Aside0 (q < l.length) := ⟨by omega⟩
 rw [show r - 1 = q by omega] at f3 ⊢
 have c5 : lt x (gk l r).1 = true := by
  obtain ⟨z, hz⟩ := (HV.out.fin r f2).1
  exact eqv_false_lt hz.ok.1 c0 f4 c3
 have HC : Aside0 (∀ w, Calls Try.prog 50 #[.agg #[.int .u32 ((gk l q).1 : Int), .int .u32 ((gk l q).2 : Int)], .agg #[.int .u32 ((gk l r).1 : Int), .int .u32 ((gk l r).2 : Int)], .int .u32 (x : Int)] w fun e w' => e = .returned (.int .u32 ((btv (gk l q) (gk l r) x : Nat) : Int)) ∧ Below w.heap.size w w') := by
  subst hq
  exact ⟨rbtv_calls HV.out HX.out f2 f3 c5⟩
 clear hq f3 f4 hr
 clear hK hx hv h64 hm hc
 go_enter Try.func18, Try.ntmps18
 go_wp2_with (first | (go_at_call 37; (with_reducible refine (rNaN_calls x HX.out _).mono ?_); rw [c0]; rintro e _ ⟨rfl, nd, rfl⟩) | (go_at_call 38; (with_reducible refine (rBelow_calls (gk l 0).1 x HK.out HX.out _).mono ?_); rw [c1]; rintro e _ ⟨rfl, nd, rfl⟩) | (go_at_call 38; (with_reducible refine (rBelow_calls x (gk l m).1 HX.out HM.out _).mono ?_); rw [c2]; rintro e _ ⟨rfl, nd, rfl⟩))
 go_loopg [6] (m + 1) (fun kx s6 wr => ∃ i : Nat, s6 = .int .i64 (i : Int) ∧ 1 ≤ i ∧ i ≤ r ∧ m + 1 - i ≤ kx ∧ Aside0 (Below w.heap.size w wr))
 case atStart => exact ⟨1, rfl, Nat.le_refl _, f1, by omega, ⟨by repeat (first | exact B_0.out | apply pw_below_drewN)⟩⟩
 case round =>
  obtain ⟨i, rfl, i1, i2, i3, HB⟩ := hrel
  have h64 := HV.out.most
  have hm := HE.out
  have e1 : decide ((0 : Int) ≤ (i : Int)) = true := decide_eq_true (by omega)
  have e2 : decide ((i : Int) < (l.length : Int)) = true := decide_eq_true (by omega)
  have e3 : decide ((i : Int) ≤ (m : Int)) = true := decide_eq_true (by omega)
  have e5 : ((0 : Int) ≤ (i : Int)) = True := eq_true (by omega)
  have e6 : ((i : Int) < (l.length : Int)) = True := eq_true (by omega)
  have e7 : (i < l.length) = True := eq_true (by omega)
  have e8 : ((i : Int) ≤ (m : Int)) = True := eq_true (by omega)
  have e9 : (i ≤ m) = True := eq_true (by omega)
  have wi : IntKind.i64.wrap ((i : Int) + 1) = ((i + 1 : Nat) : Int) := by rw [show IntKind.i64.wrap ((i : Int) + 1) = wrap64 ((i : Int) + 1) from i64_w _, w64 (by omega) (by omega)]; omega
  have HI : Aside0 _ := ⟨(gk_ok HV.out.ok i).1⟩
  obtain ⟨r0, r1⟩ := kn_at2 (HN.out.below HB.out) i (by omega)
  clear h64 hm
  by_cases hir : i < r
  ·have k1 := FL.out i hir
   have c5 : lt x (A.gk l i).1 = false := lt_asymm k1
   have c4 : eqv x (A.gk l i).1 = false := by
    unfold lt at k1
    unfold eqv
    simp only [Bool.and_eq_true, Bool.not_eq_true', decide_eq_true_eq] at k1
    rw [decide_eq_false (by omega), Bool.and_false]
   clear k1
   go_wp2_with (first | (go_at_call 25; (with_reducible refine (rSame_calls x (A.gk l i).1 HX.out HI.out _).mono ?_); rw [c4]; rintro e _ ⟨rfl, nd, rfl⟩) | (go_at_call 38; (with_reducible refine (rBelow_calls x (A.gk l i).1 HX.out HI.out _).mono ?_); rw [c5]; rintro e _ ⟨rfl, nd, rfl⟩))
   go_roundg (m + 1 - (i + 1))
   case measure => omega
   case rel => exact ⟨i + 1, by first | rfl | (congr 1; omega), by omega, by omega, by omega, ⟨by repeat (first | exact HB.out | apply pw_below_drewN)⟩⟩
  ·obtain rfl : i = r := by omega
   rw [eqv_comm] at c3
   go_wp2_with (first | (go_at_call 25; (with_reducible refine (rSame_calls x (A.gk l i).1 HX.out HI.out _).mono ?_); rw [c3]; rintro e _ ⟨rfl, nd1, rfl⟩) | (go_at_call 38; (with_reducible refine (rBelow_calls x (A.gk l i).1 HX.out HI.out _).mono ?_); rw [c5]; rintro e _ ⟨rfl, nd2, rfl⟩))
   obtain ⟨w7, hw7⟩ : ∃ w7, w7 = wr.drewN (nd1 + nd2) := ⟨_, rfl⟩
   rw [← hw7]
   have hb7 : Below wr.heap.size wr w7 := by rw [hw7]; exact pw_below_drewN (Below.refl _ _) _
   have B_7 := Aside0.mk (below_step HB.out hb7)
   clear r0 r1 hw7 hb7
   obtain ⟨r0, r1⟩ := kn_at2 (HN.out.below B_7.out) i (by omega)
   obtain ⟨q0, q1⟩ := kn_at2 (HN.out.below B_7.out) q LQ.out
   refine start_ (n := 12) (S := fun w' => w'.cell? (ad.add (i * 2)) = some (.int .u32 ((A.gk l i).1 : Int)) ∧ w'.cell? ⟨(ad.add (i * 2)).block, (ad.add (i * 2)).off + 1, none⟩ = some (.int .u32 ((A.gk l i).2 : Int)) ∧ w'.cell? (ad.add (q * 2)) = some (.int .u32 ((A.gk l q).1 : Int)) ∧ w'.cell? ⟨(ad.add (q * 2)).block, (ad.add (q * 2)).off + 1, none⟩ = some (.int .u32 ((A.gk l q).2 : Int))) (ds := [10]) #[ff_,ff_,ff_,ff_,ff_,ff_,ff_,ff_,ff_,ff_,ff_,ff_] (by kernel_rfl) rfl rfl ⟨r0, r1, q0, q1⟩ (fun hHeld => ?_)
   refine pure_ (i := 0) (N := some 60) (v := ?_) (a' := ?_) #[tt_,ff_,ff_,ff_,ff_,ff_,ff_,ff_,ff_,ff_,ff_,ff_] rfl rfl (by kernel_rfl) (fun _ _ _ h => h) (Or.inl ⟨by rfl, ?_⟩) ?_ ?_
   rotate_left
   ·intro w'
    go_simp
    with_reducible rfl
   rotate_left
   ·simp only [Act.put, List.setIfInBounds_toArray, List.set_cons_zero, List.set_cons_succ, i64_w, i32_w]
    rfl
   refine pure_ (i := 1) (N := some 61) (v := ?_) (a' := ?_) #[tt_,tt_,ff_,ff_,ff_,ff_,ff_,ff_,ff_,ff_,ff_,ff_] rfl rfl (by kernel_rfl) (fun _ _ _ h => h) (Or.inl ⟨by rfl, ?_⟩) ?_ ?_
   rotate_left
   ·intro w'
    go_simp
    with_reducible rfl
   rotate_left
   ·simp only [Act.put, List.setIfInBounds_toArray, List.set_cons_zero, List.set_cons_succ, i64_w, i32_w]
    rfl
   refine pure_ (i := 2) (N := some 62) (v := ?_) (a' := ?_) #[tt_,tt_,tt_,ff_,ff_,ff_,ff_,ff_,ff_,ff_,ff_,ff_] rfl rfl (by kernel_rfl) (fun _ _ _ h => h) (Or.inl ⟨by rfl, ?_⟩) ?_ ?_
   rotate_left
   ·intro w'
    go_simp
    with_reducible rfl
   rotate_left
   ·simp only [Act.put, List.setIfInBounds_toArray, List.set_cons_zero, List.set_cons_succ, i64_w, i32_w]
    rfl
   refine pure_ (i := 3) (N := some 63) (v := ?_) (a' := ?_) #[tt_,tt_,tt_,tt_,ff_,ff_,ff_,ff_,ff_,ff_,ff_,ff_] rfl rfl (by kernel_rfl) (fun _ _ _ h => h) (Or.inl ⟨by rfl, ?_⟩) ?_ ?_
   rotate_left
   ·intro w'
    go_simp
    with_reducible rfl
   rotate_left
   ·simp only [Act.put, List.setIfInBounds_toArray, List.set_cons_zero, List.set_cons_succ, i64_w, i32_w]
    rfl
   refine pure_ (i := 5) (N := some 65) (v := ?_) (a' := ?_) #[tt_,tt_,tt_,tt_,ff_,tt_,ff_,ff_,ff_,ff_,ff_,ff_] rfl rfl (by kernel_rfl) (fun _ _ _ h => h) (Or.inl ⟨by rfl, ?_⟩) ?_ ?_
   rotate_left
   ·intro w'
    go_simp
    with_reducible rfl
   rotate_left
   ·simp only [Act.put, List.setIfInBounds_toArray, List.set_cons_zero, List.set_cons_succ, i64_w, i32_w]
    rfl
   refine pure_ (i := 6) (N := some 66) (v := ?_) (a' := ?_) #[tt_,tt_,tt_,tt_,ff_,tt_,tt_,ff_,ff_,ff_,ff_,ff_] rfl rfl (by kernel_rfl) (fun _ _ _ h => h) (Or.inl ⟨by rfl, ?_⟩) ?_ ?_
   rotate_left
   ·intro w'
    go_simp
    with_reducible rfl
   rotate_left
   ·simp only [Act.put, List.setIfInBounds_toArray, List.set_cons_zero, List.set_cons_succ, i64_w, i32_w]
    rfl
   refine pure_ (i := 7) (N := some 67) (v := ?_) (a' := ?_) #[tt_,tt_,tt_,tt_,ff_,tt_,tt_,tt_,ff_,ff_,ff_,ff_] rfl rfl (by kernel_rfl) (fun _ _ _ h => h) (Or.inl ⟨by rfl, ?_⟩) ?_ ?_
   rotate_left
   ·intro w'
    go_simp
    with_reducible rfl
   rotate_left
   ·simp only [Act.put, List.setIfInBounds_toArray, List.set_cons_zero, List.set_cons_succ, i64_w, i32_w]
    rfl
   refine pure_ (i := 9) (N := some 69) (v := ?_) (a' := ?_) #[tt_,tt_,tt_,tt_,ff_,tt_,tt_,tt_,ff_,tt_,ff_,ff_] rfl rfl (by kernel_rfl) (fun _ _ _ h => h) (Or.inl ⟨by rfl, ?_⟩) ?_ ?_
   rotate_left
   ·intro w'
    go_simp
    with_reducible rfl
   rotate_left
   ·simp only [Act.put, List.setIfInBounds_toArray, List.set_cons_zero, List.set_cons_succ, i64_w, i32_w]
    rfl
   refine take_ (i := 4) (N := some 64) (v := ?_) (a' := ?_) #[tt_,tt_,tt_,tt_,tt_,tt_,tt_,tt_,ff_,tt_,ff_,ff_] rfl rfl (by kernel_rfl) (fun _ _ _ h => h) (Or.inl ⟨by rfl, ?_⟩) hHeld ?_ ?_
   rotate_left
   ·rintro w' ⟨s0, s1, s2, s3⟩
    go_simp
    with_reducible rfl
   rotate_left
   ·simp only [Act.put, List.setIfInBounds_toArray, List.set_cons_zero, List.set_cons_succ, i64_w, i32_w]
    rfl
   refine take_ (i := 8) (N := some 68) (v := ?_) (a' := ?_) #[tt_,tt_,tt_,tt_,tt_,tt_,tt_,tt_,tt_,tt_,ff_,ff_] rfl rfl (by kernel_rfl) (fun _ _ _ h => h) (Or.inl ⟨by rfl, ?_⟩) hHeld ?_ ?_
   rotate_left
   ·rintro w' ⟨s0, s1, s2, s3⟩
    go_simp
    with_reducible rfl
   rotate_left
   ·simp only [Act.put, List.setIfInBounds_toArray, List.set_cons_zero, List.set_cons_succ, i64_w, i32_w]
    rfl
   refine last_ (i := 10) (N := some 70) #[tt_,tt_,tt_,tt_,tt_,tt_,tt_,tt_,tt_,tt_,tt_,ff_] rfl rfl (by kernel_rfl) (by decide) (fun K hK => ?_)
   refine goes_ Try.func50 (by kernel_rfl) rfl #[.agg #[.int .u32 ((A.gk l q).1 : Int), .int .u32 ((A.gk l q).2 : Int)], .agg #[.int .u32 ((A.gk l i).1 : Int), .int .u32 ((A.gk l i).2 : Int)], .int .u32 (x : Int)] (by rfl) rfl rfl (by (try simp only [List.map_toArray, List.map_cons, List.map_nil]); rfl) ?_
   refine (HC.out _).mono ?_
   rintro e w8 ⟨rfl, hb⟩
   refine ⟨_, rfl, ?_⟩
   have B_8 := Aside0.mk (below_step (below_drew B_7.out) hb)
   clear hb
   refine hK.out _ _ ?_
   clear hK K
   refine norm_ (a' := ?_) ?_ ?_
   rotate_left
   ·show Act.put _ (some 70) _ = _
    simp only [Act.put, List.setIfInBounds_toArray, List.set_cons_zero, List.set_cons_succ, i64_w, i32_w]
    rfl
   refine pure_ (i := 11) (N := some 4) (v := ?_) (a' := ?_) #[tt_,tt_,tt_,tt_,tt_,tt_,tt_,tt_,tt_,tt_,tt_,tt_] rfl rfl (by kernel_rfl) (fun _ _ _ h => h) (Or.inl ⟨by rfl, ?_⟩) ?_ ?_
   rotate_left
   ·intro w'
    go_simp
    with_reducible rfl
   rotate_left
   ·simp only [Act.put, List.setIfInBounds_toArray, List.set_cons_zero, List.set_cons_succ, i64_w, i32_w]
    rfl
   refine done_ (by kernel_rfl) ?_
   go_wp2
   go_ret
   exact ⟨rfl, B_8.out⟩
theorem rAt_calls (A : Option Addr) (c : Nat) (l : List (Nat × Nat)) (hv : Val l) (x : Nat) (hx : x < 4294967296) (w : World) (hc : l.length ≤ c) (hK : Kn w A l) :
    Calls Try.prog 18 #[.slice A l.length c, .int .u32 (x : Int)] w fun e w' => e = .returned (.int .u32 ((atP l x : Nat) : Int)) ∧ Below w.heap.size w w' := by
 unfold atP atS
 cases c0 : isnan x
 ·rw [if_neg (by decide)]
  cases c1 : lt (gk l 0).1 x
  ·rw [if_pos rfl]; exact rAt_low A c l hv x hx w hc hK c0 c1
  ·rw [if_neg (by decide)]
   cases c2 : lt x (gk l (l.length - 1)).1
   ·rw [if_pos rfl]; exact rAt_high A c l hv x hx w hc hK c0 c1 c2
   ·rw [if_neg (by decide)]
    cases c3 : eqv (gk l (fidx l x)).1 x
    ·rw [if_neg (by decide)]; exact rAt_btw A c l hv x hx w hc hK c0 c1 c2 c3
    ·rw [if_pos rfl]; exact rAt_eq A c l hv x hx w hc hK c0 c1 c2 c3
 ·rw [if_pos rfl]; exact rAt_nan A c l hv x hx w hc hK c0
end Go.Proofs.Ytkicfaboibfbpaa.A
end
section
set_option linter.unusedVariables false
set_option linter.unusedSimpArgs false
namespace Go.Proofs.Ytkicfaboibfbpaa.A
open Go.RowKit Go.Proofs.YtkicfaboibfbpaaW.PrintWords Go.Proofs.YtkicfaboibfbpaaW.PrintLast Go.Proofs.YtkicfaboibfbpaaW.PrintMore Go.Proofs.Ytkicfaboibfbpaa.PCurveAts

theorem info43 : (Try.prog.info? 43).map (fun i => (i.zero, i.size, i.bytes)) = some (some (.agg #[.int .u32 0, .int .u32 0]), k43.sz, 8) := by kernel_rfl
/-- an own row of knots -/
def KR (w : World) (base : Nat) (v : Value) (l : List (Nat × Nat)) : Prop := Kd.R k43 43 w base (fun _ => True) v (l.map kI)
theorem KR.kn {w : World} {base n c : Nat} {A : Option Addr} {l : List (Nat × Nat)} (h : KR w base (.slice A n c) l) : n = l.length ∧ n ≤ c ∧ Kn w A l := by
 obtain ⟨h1, h2, h3⟩ := Kd.R_reads' h
 rw [List.length_map] at h1 h3
 exact ⟨h1, h2, h3⟩
theorem KR.slice {w : World} {base : Nat} {v : Value} {l : List (Nat × Nat)} (h : KR w base v l) : ∃ A c, v = .slice A l.length c := by
 obtain ⟨A, c, e⟩ := Kd.R_slice h
 rw [List.length_map] at e
 exact ⟨A, c, e⟩
theorem KR.nil (w : World) (base : Nat) : KR w base (.slice none 0 0) [] := Kd.R_nil _ _ _ _ _
theorem KR.made (w : World) : KR (w.alloc (.cells #[] 43 (0, 0))) w.heap.size (.slice (some ⟨w.heap.size, 0, none⟩) 0 0) [] :=
 ⟨fun _ _ => trivial, [], World.ownsRow_made w #[] 0 (Nat.le_refl _) (Nat.zero_le _) (by simp), Reps.none _ _⟩
theorem k43_any (w w2 : World) (base : Nat) (ok : Nat → Prop) (x : S43) (cs : List Value) (h : k43.K w x cs) : k43.M w2 base ok x cs := by
 obtain rfl := k43_open h
 exact k43_mkM w2 base ok x
set_option maxHeartbeats 2000000 in
theorem Clone43_calls (A : Option Addr) (c : Nat) (l : List (Nat × Nat)) (h0 : 0 < l.length) (h1 : l.length < 1000) (hc : l.length ≤ c) (w : World) (hK : Kn w A l) :
    Calls Try.prog 43 #[.slice A l.length c] w fun e w' => ∃ B cb, e = .returned (.slice B l.length cb) ∧ Below w.heap.size w w' ∧ KR w' w.heap.size (.slice B l.length cb) l := by
 obtain ⟨ad, rfl, _⟩ := kn_at hK 0 h0
 have hq : ∀ w : World, (binOp .eql 23 (.slice (some ad) l.length c) (.slice none 0 0)).run Try.prog w = .ok (.bool (some ad).isNone) w := fun w => Lib.run_eql_slice_nil w _ _ _ _ _ _ _ Try.underlying23
 have hq2 : ∀ w : World, (binOp .eql 23 (.slice (some ad) l.length c) (.slice none 0 0)).run Try.prog w = .ok (.bool false) w := hq
 clear hq
 have HK : Aside0 (Kn w (some ad) l) := ⟨hK⟩
 have H1 : Aside0 (l.length < 1000) := ⟨h1⟩
 clear hK h0 h1
 go_enter Try.func43, Try.ntmps43
 go_wp2_with (first
  | ((with_reducible refine gate_dst (N := 4) rfl ?_); refine Kd.event_run rfl (v := .bool false) (w1 := w) ?hr ?_; (case hr => first | (go_simp; done) | (go_simp; rfl)))
  | ((with_reducible refine gate_dst (N := 5) rfl ?_); refine Kd.event_run rfl (v := .slice (some ⟨w.heap.size, 0, none⟩) 0 0) (w1 := w.alloc (.cells #[] 43 (0, 0))) ?hr ?_; (case hr => first | (go_simp; done) | (go_simp; rfl)))
  | ((with_reducible refine gate_dst (N := 7) rfl ?_); refine Kd.R_append_rows k43 (W := w.alloc (.cells #[] 43 (0, 0))) (Rr := k43.K (w.alloc (.cells #[] 43 (0, 0)))) (w0 := w) w.heap.size rfl (.tmp 5) (.tmp 6) 23 43 (.agg #[.int .u32 0, .int .u32 0]) 8 rfl Try.underlying23 info43 rfl (by decide) (by decide) (.slice (some ⟨w.heap.size, 0, none⟩) 0 0) [] (l.map kI) (some ad) l.length c (fun _ => True) (fun _ => False) rfl rfl (KR.made w) (Kd.C_alloc HK.out _) (fun x cs h => k43_any _ _ _ _ _ _ h) (fun _ h => h.elim) (fun _ _ => trivial) (below_alloc (Below.refl _ _) _) (below_alloc (Below.refl _ _) _).size (by have := H1.out; simp only [List.length_nil]; omega) ?_; intro v7 w7 hR hB hg hat; have R7 : Aside0 (KR w7 w.heap.size v7 l) := ⟨hR⟩; have B7 := Aside0.mk hB; clear hR hB hg hat))
 go_ret
 obtain ⟨B, cb, rfl⟩ := R7.out.slice
 exact ⟨B, cb, rfl, B7.out, R7.out⟩
end Go.Proofs.Ytkicfaboibfbpaa.A
end
section
set_option linter.unusedVariables false
set_option linter.unusedSimpArgs false
namespace Go.Proofs.Ytkicfaboibfbpaa.A
open Go.RowKit Go.Proofs.YtkicfaboibfbpaaW.PrintWords Go.Proofs.YtkicfaboibfbpaaW.PrintLast Go.Proofs.YtkicfaboibfbpaaW.PrintMore Go.Proofs.Ytkicfaboibfbpaa.PCurveAts
section
variable {P : Program} {ops : Array Oper} {Q : Exit → Act → World → Prop} {o : Oper} {rest : List Oper} {a : Act}
theorem row_after {W : World} {g : Nat} {cells old : Array Value} {ty : TypeId} (hg : W.heap[g]? = some (.cells old ty (0, 0))) : (W.setRow g cells).heap[g]? = some (.cells cells ty (0, 0)) ∧ (∀ k, k ≠ g → (W.setRow g cells).heap[k]? = W.heap[k]?) ∧ (∀ B, B ≤ g → Below B W (W.setRow g cells)) :=
 ⟨setRow_heap W g old cells ty (0, 0) hg, fun k hk => setRow_other W g k cells hk, fun B hB => ⟨rfl, rfl, rfl, by simp [World.setRow], fun k hk => setRow_other W g k cells (by omega)⟩⟩
/-- a store of a struct into its box -/
theorem store_event {W : World} (hgd : o.guard = none) (hd : o.dst = none) {t : TypeId} {p v : Operand} (ho : o.op = .store t p v) (g : Nat) (cells old : Array Value) (ty : TypeId) (hp : a.eval p = .pointer (some ⟨g, 0, none⟩)) (hv : a.eval v = .agg cells) (hg : W.heap[g]? = some (.cells old ty (0, 0)))
    (hi : (P.info? t).map (·.size) = some cells.size) (hold : old.size = cells.size) (h1 : cells.all (·.oneCell') = true)
    (h : ∀ w1, w1.heap[g]? = some (.cells cells ty (0, 0)) → (∀ k, k ≠ g → w1.heap[k]? = W.heap[k]?) → (∀ B, B ≤ g → Below B W w1) → wpList P ops Q rest a w1) : wpList P ops Q (o :: rest) a W := by
 obtain ⟨r1, r2, r3⟩ := row_after (cells := cells) hg
 exact wpList_store_row hgd t p v ho g cells hp hv ty old hg hi hold h1 (by rw [hd]; exact h _ r1 r2 r3)
variable {w : World} {K : Act → World → Prop}
end
theorem size43 : (Try.prog.info? 43).map (·.size) = some 2 := by kernel_rfl
theorem bad1_of {l : List (Nat × Nat)} (h : ∀ i, i < l.length → fin (gk l i).1 = true ∧ fin (gk l i).2 = true) : bad1 l = false := by
 unfold bad1
 rw [List.any_eq_false]
 intro k hk
 obtain ⟨i, hi, rfl⟩ := List.mem_iff_getElem.mp hk
 have h1 := h i hi
 unfold gk at h1
 rw [List.getD_eq_getElem?_getD, List.getElem?_eq_getElem hi, Option.getD_some] at h1
 rw [h1.1, h1.2]; decide
theorem bad2_of : ∀ (l : List (Nat × Nat)), (∀ i, i + 1 < l.length → lt (gk l i).1 (gk l (i + 1)).1 = true ∧ lt (gk l (i + 1)).2 (gk l i).2 = false) → bad2 l = false
 | [], _ => rfl
 | [_], _ => rfl
 | a :: b :: t, h => by
  unfold bad2
  have h0 := h 0 (by simp)
  have h1 : lt a.1 b.1 = true := h0.1
  have h2 : lt b.2 a.2 = false := h0.2
  rw [h1, h2, bad2_of (b :: t) (fun i hi => h (i + 1) (by simp at hi ⊢; omega))]; rfl
theorem chk_40 {l : List (Nat × Nat)} (h : l.length < 2 ∨ 64 < l.length) : chk l = 40 := by unfold chk; rw [if_pos h]
theorem chk_41 {l : List (Nat × Nat)} (h : ¬ (l.length < 2 ∨ 64 < l.length)) {i : Nat} (hi : i < l.length) (h2 : ¬ (fin (gk l i).1 = true ∧ fin (gk l i).2 = true)) : chk l = 41 := by
 unfold chk
 rw [if_neg h]
 cases h3 : bad1 l
 ·exact absurd (bad1_fin h3 i hi) h2
 ·rw [if_pos rfl]
theorem chk_42 {l : List (Nat × Nat)} (h : ¬ (l.length < 2 ∨ 64 < l.length)) (h1 : ∀ i, i < l.length → fin (gk l i).1 = true ∧ fin (gk l i).2 = true) {i : Nat} (hi : i + 1 < l.length) (h2 : ¬ (lt (gk l i).1 (gk l (i + 1)).1 = true ∧ lt (gk l (i + 1)).2 (gk l i).2 = false)) : chk l = 42 := by
 unfold chk
 rw [if_neg h, bad1_of h1, if_neg (by decide)]
 cases h3 : bad2 l
 ·exact absurd (bad2_ris l h3 i hi) h2
 ·rw [if_pos rfl]
theorem chk_0 {l : List (Nat × Nat)} (h : ¬ (l.length < 2 ∨ 64 < l.length)) (h1 : ∀ i, i < l.length → fin (gk l i).1 = true ∧ fin (gk l i).2 = true) (h2 : ∀ i, i + 1 < l.length → lt (gk l i).1 (gk l (i + 1)).1 = true ∧ lt (gk l (i + 1)).2 (gk l i).2 = false) : chk l = 0 := by
 unfold chk
 rw [if_neg h, bad1_of h1, if_neg (by decide), bad2_of l h2, if_neg (by decide)]
theorem KR.below {w w' : World} {base : Nat} {v : Value} {l : List (Nat × Nat)} (h : KR w base v l) (hb : Below w.heap.size w w') : KR w' base v l := Kd.R_below h hb
theorem KR.lower {w : World} {b b' : Nat} {v : Value} {l : List (Nat × Nat)} (h : KR w b v l) (hb : b' ≤ b) : KR w b' v l := Kd.R_lower h hb
/-- what New tells -/
def NewP (l : List (Nat × Nat)) (w : World) (e : Ending) (w' : World) : Prop := ∃ v, e = .returned (.tuple #[v, .int .i64 ((chk l : Nat) : Int)]) ∧ Below w.heap.size w w' ∧ ((chk l ≠ 0 ∧ v = .pointer none) ∨
 (chk l = 0 ∧ ∃ g B cb, v = .pointer (some ⟨g, 0, none⟩) ∧ w.heap.size ≤ g ∧ CvB w' g B cb l ∧ KR w' w.heap.size (.slice B l.length cb) l))
theorem NewP.ok {l : List (Nat × Nat)} {w w' : World} {g cb : Nat} {B : Option Addr} (h : chk l = 0) (hb : Below w.heap.size w w') (hg : w.heap.size ≤ g) (hm : w'.heap[g]? = some (.cells #[.slice B l.length cb] 78 (0, 0))) (hR : KR w' w.heap.size (.slice B l.length cb) l) : NewP l w (.returned (.tuple #[.pointer (some ⟨g, 0, none⟩), .int .i64 0])) w' :=
 ⟨_, by rw [h]; rfl, hb, .inr ⟨h, g, B, cb, rfl, hg, ⟨hm, hR.kn.2.1, hR.kn.2.2⟩, hR⟩⟩
theorem NewP.bad {l : List (Nat × Nat)} {w w' : World} {k : Int} {n : Nat} (h : chk l = n) (h0 : n ≠ 0) (hk : k = (n : Int)) (hb : Below w.heap.size w w') : NewP l w (.returned (.tuple #[.pointer none, .int .i64 k])) w' :=
 ⟨_, by rw [hk, h], hb, .inl ⟨by rw [h]; exact h0, rfl⟩⟩
set_option maxHeartbeats 8000000 in
theorem New_calls (A : Option Addr) (c : Nat) (l : List (Nat × Nat)) (hl : kok l) (h64 : l.length < 1000) (hc : l.length ≤ c) (w : World) (hK : Kn w A l) : Calls Try.prog 31 #[.slice A l.length c] w fun e w' => NewP l w e w' := by
 have HL : Aside0 (kok l) := ⟨hl⟩
 have HN : Aside0 (Kn w A l) := ⟨hK⟩
 have H6 : Aside0 (l.length < 1000 ∧ l.length ≤ c) := ⟨h64, hc⟩
 have B_0 : Aside0 (Below w.heap.size w w) := ⟨Below.refl _ _⟩
 clear hl hK h64 hc
 by_cases t1 : l.length < 2
 ·have d1 : decide ((l.length : Int) < 2) = true := decide_eq_true (by omega)
  have d2 : (l.length < 2) = True := eq_true t1
  have T1 : Aside0 _ := ⟨t1⟩
  clear t1
  go_enter Try.func31, Try.ntmps31
  go_wp2
  go_ret2
  exact .bad (chk_40 (.inl T1.out)) (by decide) rfl B_0.out
 by_cases t2 : 64 < l.length
 ·have d1 : decide ((l.length : Int) < 2) = false := decide_eq_false (by omega)
  have d2 : (l.length < 2) = False := eq_false t1
  have d3 : decide ((l.length : Int) > 64) = true := decide_eq_true (by omega)
  have d4 : (64 < l.length) = True := eq_true t2
  have T1 : Aside0 _ := ⟨t2⟩
  clear t1 t2
  go_enter Try.func31, Try.ntmps31
  go_wp2
  go_ret2
  exact .bad (chk_40 (.inr T1.out)) (by decide) rfl B_0.out
 obtain ⟨ad, rfl, _⟩ := kn_at HN.out 0 (by omega)
 have d1 : decide ((l.length : Int) < 2) = false := decide_eq_false (by omega)
 have d2 : (l.length < 2) = False := eq_false t1
 have d3 : decide ((l.length : Int) > 64) = false := decide_eq_false (by omega)
 have d4 : (64 < l.length) = False := eq_false t2
 have T1 : Aside0 (¬ (l.length < 2 ∨ 64 < l.length)) := ⟨by omega⟩
 clear t1 t2
 go_enter Try.func31, Try.ntmps31
 go_wp2
 go_loopg [17] l.length (fun kx s17 wr => ∃ i : Nat, s17 = .int .i64 (i : Int) ∧ i ≤ l.length ∧ l.length - i ≤ kx ∧ Aside0 (Below w.heap.size w wr) ∧ Aside0 (∀ j, j < i → fin (A.gk l j).1 = true ∧ fin (A.gk l j).2 = true))
 case atStart => exact ⟨0, rfl, Nat.zero_le _, by omega, ⟨B_0.out⟩, ⟨fun j hj => absurd hj (Nat.not_lt_zero _)⟩⟩
 case round =>
  obtain ⟨i, rfl, i1, i2, HB, HF⟩ := hrel
  by_cases hin : i < l.length
  ·have h6 := H6.out
   have e1i : decide ((0 : Int) ≤ (i : Int)) = true := decide_eq_true (by omega)
   have e2i : decide ((i : Int) < (l.length : Int)) = true := decide_eq_true (by omega)
   have e5i : ((0 : Int) ≤ (i : Int)) = True := eq_true (by omega)
   have e6i : ((i : Int) < (l.length : Int)) = True := eq_true (by omega)
   have e7i : (i < l.length) = True := eq_true (by omega)
   have wii : IntKind.i64.wrap ((i : Int) + 1) = ((i + 1 : Nat) : Int) := by rw [show IntKind.i64.wrap ((i : Int) + 1) = wrap64 ((i : Int) + 1) from i64_w _, w64 (by omega) (by omega)]; omega
   have HI : Aside0 _ := ⟨gk_ok HL.out i⟩
   have HIN : Aside0 (i < l.length) := ⟨hin⟩
   obtain ⟨r0, r1⟩ := kn_at2 (HN.out.below HB.out) i hin
   clear h6
   cases c1 : fin (A.gk l i).1
   ·have hq := chk_41 T1.out hin (fun h => by rw [c1] at h; exact absurd h.1 (by decide))
    have HQ := Aside0.mk hq
    clear hq hin
    go_wp2_with (first | ((with_reducible refine gate_dst (N := 5) rfl ?_); refine box_event ?hg (N := 5) ?hd (cs := #[.int .u32 0, .int .u32 0]) (t := 43) ?hr ?_; (case hd => rfl); (case hg => rfl); (case hr => first | (go_simp; done) | (go_simp; rfl)); intro gx hg_ wa hm_ hb_; have BA := Aside0.mk (below_step HB.out hb_); have MA := Aside0.mk (hm_); have GA := Aside0.mk (show w.heap.size ≤ gx by rw [hg_]; exact HB.out.size); clear hm_ hb_ hg_) | ((with_reducible refine gate_store (p := 5) rfl ?_); refine store_event rfl rfl rfl gx #[.int .u32 ((A.gk l i).1 : Int), .int .u32 ((A.gk l i).2 : Int)] _ 43 rfl rfl MA.out size43 rfl (by simp [Value.oneCell']) ?_; intro wb hm_ hst_ hbl_; have BB := Aside0.mk (BA.out.trans (hbl_ _ GA.out)); have MB := Aside0.mk (hm_); clear hm_ hst_ hbl_; have o0 := (blk_cell MB.out 0).trans rfl; have o1 := (blk_cell MB.out 1).trans rfl) | (go_at_call 53; (with_reducible refine (finite_calls (A.gk l i).1 HI.out.1 _).mono ?_); rw [c1]; rintro e wc ⟨rfl, hb⟩; have BBn := Aside0.mk (below_step BB.out hb); have MBn := Aside0.mk (blk_below MB.out hb); clear hb o0 o1; have o0 := (blk_cell MBn.out 0).trans rfl; have o1 := (blk_cell MBn.out 1).trans rfl))
    go_ret2
    exact .bad HQ.out (by decide) rfl BBn.out
   ·cases c2 : fin (A.gk l i).2
    ·have hq := chk_41 T1.out hin (fun h => by rw [c2] at h; exact absurd h.2 (by decide))
     have HQ := Aside0.mk hq
     clear hq hin
     go_wp2_with (first | ((with_reducible refine gate_dst (N := 5) rfl ?_); refine box_event ?hg (N := 5) ?hd (cs := #[.int .u32 0, .int .u32 0]) (t := 43) ?hr ?_; (case hd => rfl); (case hg => rfl); (case hr => first | (go_simp; done) | (go_simp; rfl)); intro gx hg_ wa hm_ hb_; have BA := Aside0.mk (below_step HB.out hb_); have MA := Aside0.mk (hm_); have GA := Aside0.mk (show w.heap.size ≤ gx by rw [hg_]; exact HB.out.size); clear hm_ hb_ hg_) | ((with_reducible refine gate_store (p := 5) rfl ?_); refine store_event rfl rfl rfl gx #[.int .u32 ((A.gk l i).1 : Int), .int .u32 ((A.gk l i).2 : Int)] _ 43 rfl rfl MA.out size43 rfl (by simp [Value.oneCell']) ?_; intro wb hm_ hst_ hbl_; have BB := Aside0.mk (BA.out.trans (hbl_ _ GA.out)); have MB := Aside0.mk (hm_); clear hm_ hst_ hbl_; have o0 := (blk_cell MB.out 0).trans rfl; have o1 := (blk_cell MB.out 1).trans rfl) | (go_at_call 53; (with_reducible refine (finite_calls (A.gk l i).1 HI.out.1 _).mono ?_); rw [c1]; rintro e wc ⟨rfl, hb⟩; have BBn := Aside0.mk (below_step BB.out hb); have MBn := Aside0.mk (blk_below MB.out hb); clear hb o0 o1; have o0 := (blk_cell MBn.out 0).trans rfl; have o1 := (blk_cell MBn.out 1).trans rfl) | (go_at_call 53; (with_reducible refine (finite_calls (A.gk l i).2 HI.out.2 _).mono ?_); rw [c2]; rintro e wd ⟨rfl, hb⟩; have BBnn := Aside0.mk (below_step BBn.out hb); have MBnn := Aside0.mk (blk_below MBn.out hb); clear hb o0 o1; have o0 := (blk_cell MBnn.out 0).trans rfl; have o1 := (blk_cell MBnn.out 1).trans rfl))
     go_ret2
     exact .bad HQ.out (by decide) rfl BBnn.out
    ·clear hin
     go_wp2_with (first | ((with_reducible refine gate_dst (N := 5) rfl ?_); refine box_event ?hg (N := 5) ?hd (cs := #[.int .u32 0, .int .u32 0]) (t := 43) ?hr ?_; (case hd => rfl); (case hg => rfl); (case hr => first | (go_simp; done) | (go_simp; rfl)); intro gx hg_ wa hm_ hb_; have BA := Aside0.mk (below_step HB.out hb_); have MA := Aside0.mk (hm_); have GA := Aside0.mk (show w.heap.size ≤ gx by rw [hg_]; exact HB.out.size); clear hm_ hb_ hg_) | ((with_reducible refine gate_store (p := 5) rfl ?_); refine store_event rfl rfl rfl gx #[.int .u32 ((A.gk l i).1 : Int), .int .u32 ((A.gk l i).2 : Int)] _ 43 rfl rfl MA.out size43 rfl (by simp [Value.oneCell']) ?_; intro wb hm_ hst_ hbl_; have BB := Aside0.mk (BA.out.trans (hbl_ _ GA.out)); have MB := Aside0.mk (hm_); clear hm_ hst_ hbl_; have o0 := (blk_cell MB.out 0).trans rfl; have o1 := (blk_cell MB.out 1).trans rfl) | (go_at_call 53; (with_reducible refine (finite_calls (A.gk l i).1 HI.out.1 _).mono ?_); rw [c1]; rintro e wc ⟨rfl, hb⟩; have BBn := Aside0.mk (below_step BB.out hb); have MBn := Aside0.mk (blk_below MB.out hb); clear hb o0 o1; have o0 := (blk_cell MBn.out 0).trans rfl; have o1 := (blk_cell MBn.out 1).trans rfl) | (go_at_call 53; (with_reducible refine (finite_calls (A.gk l i).2 HI.out.2 _).mono ?_); rw [c2]; rintro e wd ⟨rfl, hb⟩; have BBnn := Aside0.mk (below_step BBn.out hb); have MBnn := Aside0.mk (blk_below MBn.out hb); clear hb o0 o1; have o0 := (blk_cell MBnn.out 0).trans rfl; have o1 := (blk_cell MBnn.out 1).trans rfl))
     go_roundg (l.length - (i + 1))
     case measure => have := HIN.out; omega
     case rel => exact ⟨i + 1, by first | rfl | (congr 1; omega), by have := HIN.out; omega, by omega, ⟨BBnn.out⟩, ⟨fun j hj => by
      rcases Nat.lt_or_eq_of_le (Nat.lt_succ_iff.mp hj) with h | h
      ·exact HF.out j h
      ·rw [h]; exact ⟨c1, c2⟩⟩⟩
  ·obtain rfl : i = l.length := by omega
   have dd : decide ((l.length : Int) < (l.length : Int)) = false := decide_eq_false (by omega)
   clear hin
   go_wp2
   obtain ⟨w0, hw0⟩ : ∃ w0, w0 = wr := ⟨_, rfl⟩
   rw [← hw0]
   have HBW : Aside0 (Below w.heap.size w w0) := ⟨by rw [hw0]; exact HB.out⟩
   clear hw0 HB dd
   go_loopg [6] l.length (fun kx s6 wr => ∃ i : Nat, s6 = .int .i64 ((i + 1 : Nat) : Int) ∧ i + 1 ≤ l.length ∧ l.length - i ≤ kx ∧ Aside0 (Below w.heap.size w wr) ∧ Aside0 (∀ j, j < i → lt (A.gk l j).1 (A.gk l (j + 1)).1 = true ∧ lt (A.gk l (j + 1)).2 (A.gk l j).2 = false))
   case atStart => exact ⟨0, rfl, by have := T1.out; omega, by omega, ⟨HBW.out⟩, ⟨fun j hj => absurd hj (Nat.not_lt_zero _)⟩⟩
   case round =>
    obtain ⟨i, rfl, i1, i2, HB, HG⟩ := hrel
    obtain ⟨k, hk⟩ : ∃ k, k = i + 1 := ⟨_, rfl⟩
    rw [← hk]
    have HKI : Aside0 (k = i + 1) := ⟨hk⟩
    by_cases hin : k < l.length
    ·have h6 := H6.out
     have e1k : decide ((0 : Int) ≤ (k : Int)) = true := decide_eq_true (by omega)
     have e2k : decide ((k : Int) < (l.length : Int)) = true := decide_eq_true (by omega)
     have e5k : ((0 : Int) ≤ (k : Int)) = True := eq_true (by omega)
     have e6k : ((k : Int) < (l.length : Int)) = True := eq_true (by omega)
     have e7k : (k < l.length) = True := eq_true (by omega)
     have wik : IntKind.i64.wrap ((k : Int) + 1) = ((k + 1 : Nat) : Int) := by rw [show IntKind.i64.wrap ((k : Int) + 1) = wrap64 ((k : Int) + 1) from i64_w _, w64 (by omega) (by omega)]; omega
     have e1i : decide ((0 : Int) ≤ (i : Int)) = true := decide_eq_true (by omega)
     have e2i : decide ((i : Int) < (l.length : Int)) = true := decide_eq_true (by omega)
     have e5i : ((0 : Int) ≤ (i : Int)) = True := eq_true (by omega)
     have e6i : ((i : Int) < (l.length : Int)) = True := eq_true (by omega)
     have e7i : (i < l.length) = True := eq_true (by omega)
     have wii : IntKind.i64.wrap ((i : Int) + 1) = ((i + 1 : Nat) : Int) := by rw [show IntKind.i64.wrap ((i : Int) + 1) = wrap64 ((i : Int) + 1) from i64_w _, w64 (by omega) (by omega)]; omega
     have wk : IntKind.i64.wrap ((k : Int) - 1) = (i : Int) := by rw [show IntKind.i64.wrap ((k : Int) - 1) = wrap64 ((k : Int) - 1) from i64_w _, w64 (by omega) (by omega)]; omega
     obtain ⟨r0, r1⟩ := kn_at2 (HN.out.below HB.out) i (by omega)
     obtain ⟨q0, q1⟩ := kn_at2 (HN.out.below HB.out) k hin
     have HIN : Aside0 (k < l.length) := ⟨hin⟩
     clear h6 hk i1
     cases c1 : lt (A.gk l i).1 (A.gk l k).1
     ·have hq := chk_42 T1.out HF.out (i := i) (by have := HKI.out; omega) (fun h => by rw [← HKI.out, c1] at h; exact absurd h.1 (by decide))
      have HQ := Aside0.mk hq
      have L1 : Aside0 (∀ w, Calls Try.prog 45 #[.int .u32 ((A.gk l i).1 : Int), .int .u32 ((A.gk l k).1 : Int)] w fun e w' => e = .returned (.bool false) ∧ w' = w) := ⟨fun w => by rw [← c1]; exact Less_calls _ _ (gk_ok HL.out i).1 (gk_ok HL.out k).1 w⟩
      clear hq hin c1
      go_wp2
      go_quiet ((go_at_call 45; with_reducible exact Calls.quiet_of_same (L1.out _)))
      go_wp2
      go_ret2
      exact .bad HQ.out (by decide) rfl (pw_below_drewN HB.out _)
     ·have L1 : Aside0 (∀ w, Calls Try.prog 45 #[.int .u32 ((A.gk l i).1 : Int), .int .u32 ((A.gk l k).1 : Int)] w fun e w' => e = .returned (.bool true) ∧ w' = w) := ⟨fun w => by rw [← c1]; exact Less_calls _ _ (gk_ok HL.out i).1 (gk_ok HL.out k).1 w⟩
      cases c2 : lt (A.gk l k).2 (A.gk l i).2
      ·have L2 : Aside0 (∀ w, Calls Try.prog 45 #[.int .u32 ((A.gk l k).2 : Int), .int .u32 ((A.gk l i).2 : Int)] w fun e w' => e = .returned (.bool false) ∧ w' = w) := ⟨fun w => by rw [← c2]; exact Less_calls _ _ (gk_ok HL.out k).2 (gk_ok HL.out i).2 w⟩
       have HC := Aside0.mk (⟨c1, c2⟩ : _ ∧ _)
       clear hin c1 c2
       go_wp2
       go_quiet ((go_at_call 45; first | (with_reducible exact Calls.quiet_of_same (L1.out _)) | (with_reducible exact Calls.quiet_of_same (L2.out _))))
       go_wp2
       go_roundg (l.length - (i + 1))
       case measure => have := HIN.out; have := HKI.out; omega
       case rel => exact ⟨i + 1, by have := HKI.out; first | (congr 1; omega) | rfl, by have := HIN.out; have := HKI.out; omega, by omega, ⟨pw_below_drewN HB.out _⟩, ⟨fun j hj => by
        rcases Nat.lt_or_eq_of_le (Nat.lt_succ_iff.mp hj) with h | h
        ·exact HG.out j h
        ·rw [h, ← HKI.out]; exact HC.out⟩⟩
      ·have hq := chk_42 T1.out HF.out (i := i) (by have := HKI.out; omega) (fun h => by rw [← HKI.out, c2] at h; exact absurd h.2 (by decide))
       have HQ := Aside0.mk hq
       have L2 : Aside0 (∀ w, Calls Try.prog 45 #[.int .u32 ((A.gk l k).2 : Int), .int .u32 ((A.gk l i).2 : Int)] w fun e w' => e = .returned (.bool true) ∧ w' = w) := ⟨fun w => by rw [← c2]; exact Less_calls _ _ (gk_ok HL.out k).2 (gk_ok HL.out i).2 w⟩
       clear hq hin c1 c2
       go_wp2
       go_quiet ((go_at_call 45; first | (with_reducible exact Calls.quiet_of_same (L1.out _)) | (with_reducible exact Calls.quiet_of_same (L2.out _))))
       go_wp2
       go_ret2
       exact .bad HQ.out (by decide) rfl (pw_below_drewN HB.out _)
    ·have hil : k = l.length := by omega
     have H0 : Aside0 (chk l = 0) := ⟨chk_0 T1.out HF.out (fun j hj => HG.out j (by omega))⟩
     have LP : Aside0 (0 < l.length) := ⟨by omega⟩
     have dd : decide ((l.length : Int) < (l.length : Int)) = false := decide_eq_false (by omega)
     rw [hil]
     clear hin HKI hk i1 i2 hil
     go_wp2_with (first | (go_at_call 43; (with_reducible refine (Clone43_calls (some ad) c l LP.out H6.out.1 H6.out.2 _ (HN.out.below HB.out)).mono ?_); rintro e w5 ⟨B, cb, rfl, hb, hR⟩; have B5 := Aside0.mk (below_step HB.out hb); have R5 := Aside0.mk hR; have S5 := Aside0.mk HB.out.size; clear hb hR HB) | ((with_reducible refine gate_dst (N := 68) rfl ?_); refine box_event ?hg (N := 68) ?hd (cs := #[.slice B l.length cb]) (t := 78) ?hr ?_; (case hd => rfl); (case hg => rfl); (case hr => first | (go_simp; done) | (go_simp; rfl)); intro gc hg_ w7 hm_ hb_; have B6 := Aside0.mk (hb_); have B7 := Aside0.mk (below_step B5.out hb_); have M7 := Aside0.mk (hm_); have GW := Aside0.mk (show w.heap.size ≤ gc by rw [hg_]; exact B5.out.size); clear hm_ hb_ hg_))
     go_ret2
     exact NewP.ok H0.out B7.out GW.out M7.out ((R5.out.lower S5.out).below B6.out)
end Go.Proofs.Ytkicfaboibfbpaa.A
end
section
set_option linter.unusedVariables false
set_option linter.unusedSectionVars false
set_option linter.unusedSimpArgs false
namespace Go.Proofs.Ytkicfaboibfbpaa.A
open Ieee
theorem nn_lt {a b : Nat} (ha : isnan a = false) (hb : isnan b = false) : lt a b = decide (pz a < pz b) := by unfold lt; rw [ha, hb]; rfl
theorem nn_eq {a b : Nat} (ha : isnan a = false) (hb : isnan b = false) : eqv a b = decide (pz a = pz b) := by unfold eqv; rw [ha, hb]; rfl
theorem lt_pz {a b : Nat} (h : lt a b = true) : isnan a = false ∧ isnan b = false ∧ pz a < pz b := by
 unfold lt at h
 simp only [Bool.and_eq_true, Bool.not_eq_true', decide_eq_true_eq] at h
 exact ⟨h.1.1, h.1.2, h.2⟩
theorem clp_law {a b r : Nat} (ha : isnan a = false) (hb : isnan b = false) (hr : isnan r = false) (h : pz a ≤ pz b) : isnan (clp a b r) = false ∧ pz (clp a b r) = (if pz r < pz a then pz a else if pz b < pz r then pz b else pz r) ∧ (clp a b r = a ∨ clp a b r = b ∨ clp a b r = r) := by
 unfold clp
 rw [nn_lt hr ha, nn_lt hb hr]
 by_cases c1 : pz r < pz a
 ·rw [decide_eq_true c1, if_pos rfl, if_pos c1]; exact ⟨ha, rfl, .inl rfl⟩
 ·rw [decide_eq_false c1, if_neg (by decide), if_neg c1]
  by_cases c2 : pz b < pz r
  ·rw [decide_eq_true c2, if_pos rfl, if_pos c2]; exact ⟨hb, rfl, .inr (.inl rfl)⟩
  ·rw [decide_eq_false c2, if_neg (by decide), if_neg c2]; exact ⟨hr, rfl, .inr (.inr rfl)⟩
section
variable {l : List (Nat × Nat)} (hv : Val l)
include hv
theorem Val.nx {i : Nat} (hi : i < l.length) : isnan (gk l i).1 = false ∧ isnan (gk l i).2 = false := by
 obtain ⟨⟨z, h1⟩, ⟨y, h2⟩⟩ := hv.fin i hi
 exact ⟨h1.ok.1, h2.ok.1⟩
theorem Val.ys {i : Nat} : ∀ {j}, i ≤ j → j < l.length → pz (gk l i).2 ≤ pz (gk l j).2
 | 0, h, _ => by rw [show i = 0 by omega]; exact Int.le_refl _
 | j + 1, h, hj => by
  rcases Nat.lt_or_eq_of_le h with h1 | h1
  ·have h2 := Val.ys (Nat.lt_succ_iff.mp h1) (by omega)
   have h3 := (hv.ris j hj).2
   rw [nn_lt (hv.nx hj).2 (hv.nx (show j < l.length by omega)).2] at h3
   have := of_decide_eq_false h3
   omega
  ·rw [h1]; exact Int.le_refl _
theorem Val.xs {i j : Nat} (h : i < j) (hj : j < l.length) : pz (gk l i).1 < pz (gk l j).1 := (lt_pz (hv.mono h hj)).2.2
/-- what a piece has lies between its ends -/
theorem btv_law {x r : Nat} (hx : x < 4294967296) (hr : r + 1 < l.length) (h1 : lt (gk l r).1 x = true) (h2 : lt x (gk l (r + 1)).1 = true) :
    isnan (btv (gk l r) (gk l (r + 1)) x) = false ∧ btv (gk l r) (gk l (r + 1)) x < 4294967296 ∧ pz (gk l r).2 ≤ pz (btv (gk l r) (gk l (r + 1)) x) ∧ pz (btv (gk l r) (gk l (r + 1)) x) ≤ pz (gk l (r + 1)).2 := by
 have hy := hv.ys (Nat.le_succ r) hr
 have n0 := (hv.nx (show r < l.length by omega)).2
 have n1 := (hv.nx hr).2
 have g0 := (gk_ok hv.ok r).2
 have g1 := (gk_ok hv.ok (r + 1)).2
 unfold btv
 cases he : eqv (gk l r).2 (gk l (r + 1)).2
 ·rw [if_neg (by decide)]
  obtain ⟨⟨x0, hx0⟩, ⟨y0, hy0⟩⟩ := hv.fin r (by omega)
  obtain ⟨⟨x1, hx1⟩, ⟨y1, hy1⟩⟩ := hv.fin (r + 1) hr
  obtain ⟨v, hF, v1, v2⟩ := F32_between hx hx0 hx1 h1 h2
  have hyl := (hv.ris r hr).2
  rw [hy1.lt hy0] at hyl
  rw [hy0.eqv hy1] at he
  have hyl := of_decide_eq_false hyl
  have he := of_decide_eq_false he
  obtain ⟨S, f, _, hp⟩ := A.piece hy0 hy1 hx0 hx1 (by omega) (by omega)
  obtain ⟨_, hR⟩ := hp x v hF (by omega) (by omega)
  obtain ⟨c1, c2, c3⟩ := clp_law n0 n1 hR.ok.1 hy
  refine ⟨c1, ?_, ?_, ?_⟩
  ·rcases c3 with c | c | c <;> rw [c]
   ·exact g0
   ·exact g1
   ·exact hR.ok.2
  ·rw [c2]; split
   ·exact Int.le_refl _
   ·split <;> omega
  ·rw [c2]; split
   ·exact hy
   ·split <;> omega
 ·rw [if_pos rfl]; exact ⟨n0, g0, Int.le_refl _, hy⟩
theorem btv_mono {x x' r : Nat} (hx : x < 4294967296) (hx' : x' < 4294967296) (hr : r + 1 < l.length) (h1 : lt (gk l r).1 x = true) (h2 : lt x (gk l (r + 1)).1 = true) (h1' : lt (gk l r).1 x' = true) (h2' : lt x' (gk l (r + 1)).1 = true) (hle : pz x ≤ pz x') :
    pz (btv (gk l r) (gk l (r + 1)) x) ≤ pz (btv (gk l r) (gk l (r + 1)) x') := by
 have hy := hv.ys (Nat.le_succ r) hr
 have n0 := (hv.nx (show r < l.length by omega)).2
 have n1 := (hv.nx hr).2
 unfold btv
 cases he : eqv (gk l r).2 (gk l (r + 1)).2
 ·rw [if_neg (by decide), if_neg (by decide)]
  obtain ⟨⟨x0, hx0⟩, ⟨y0, hy0⟩⟩ := hv.fin r (by omega)
  obtain ⟨⟨x1, hx1⟩, ⟨y1, hy1⟩⟩ := hv.fin (r + 1) hr
  obtain ⟨v, hF, v1, v2⟩ := F32_between hx hx0 hx1 h1 h2
  obtain ⟨v', hF', v1', v2'⟩ := F32_between hx' hx0 hx1 h1' h2'
  have hyl := (hv.ris r hr).2
  rw [hy1.lt hy0] at hyl
  rw [hy0.eqv hy1] at he
  have hyl := of_decide_eq_false hyl
  have he := of_decide_eq_false he
  obtain ⟨S, f, hf, hp⟩ := A.piece hy0 hy1 hx0 hx1 (by omega) (by omega)
  obtain ⟨_, hR⟩ := hp x v hF (by omega) (by omega)
  obtain ⟨_, hR'⟩ := hp x' v' hF' (by omega) (by omega)
  have hvv : v ≤ v' := by
   have := hF'.cmp hF
   rcases Int.lt_or_le v' v with h | h
   ·have := this.1.mp h; omega
   ·exact h
  have hff := hf v v' (by omega) hvv
  have hrr : pz (raw (gk l r) (gk l (r + 1)) x) ≤ pz (raw (gk l r) (gk l (r + 1)) x') := by
   have := hR'.cmp hR
   rcases Int.lt_or_le (pz (raw (gk l r) (gk l (r + 1)) x')) (pz (raw (gk l r) (gk l (r + 1)) x)) with h | h
   ·have := this.1.mpr h; omega
   ·exact h
  obtain ⟨_, c2, _⟩ := clp_law n0 n1 hR.ok.1 hy
  obtain ⟨_, c2', _⟩ := clp_law n0 n1 hR'.ok.1 hy
  rw [c2, c2']
  repeat' split
  all_goals omega
 ·rw [if_pos rfl, if_pos rfl]; exact Int.le_refl _
/-- within: the place, and the bounds -/
theorem at_in {x : Nat} (hx : x < 4294967296) (c0 : isnan x = false) (c1 : lt (gk l 0).1 x = true) (c2 : lt x (gk l (l.length - 1)).1 = true) :
    ∃ r, fidx l x = r + 1 ∧ r + 1 < l.length ∧ lt (gk l r).1 x = true ∧ lt (gk l (r + 1)).1 x = false ∧ atP l x = (if eqv (gk l (r + 1)).1 x = true then (gk l (r + 1)).2 else btv (gk l r) (gk l (r + 1)) x) ∧
     isnan (atP l x) = false ∧ atP l x < 4294967296 ∧ pz (gk l r).2 ≤ pz (atP l x) ∧ pz (atP l x) ≤ pz (gk l (r + 1)).2 := by
 obtain ⟨f1, f2, f3, f4⟩ : 1 ≤ fidx l x ∧ fidx l x < l.length ∧ lt (gk l (fidx l x - 1)).1 x = true ∧ lt (gk l (fidx l x)).1 x = false := by
  have : ∀ p : Nat → Bool, ∀ n, ∃ r, Srch p n r := by
   intro p n
   induction n with
   | zero => exact ⟨0, Nat.le_refl _, .inl rfl, .inl rfl⟩
   | succ n ih =>
    obtain ⟨r, h1, h2, h3⟩ := ih
    rcases h3 with h3 | h3
    ·cases h4 : p n
     ·exact ⟨n + 1, Nat.le_refl _, .inr h4, .inl rfl⟩
     ·subst h3; exact ⟨r, by omega, h2, .inr h4⟩
    ·exact ⟨r, by omega, h2, .inr h3⟩
  obtain ⟨r, hs⟩ := this (fun i => !lt (gk l i).1 x) (l.length - 1)
  obtain ⟨rfl, h1⟩ := srch_fidx hv c1 c2 hs
  exact h1
 obtain ⟨r, hr⟩ : ∃ r, fidx l x = r + 1 := ⟨fidx l x - 1, by omega⟩
 have e : atP l x = (if eqv (gk l (r + 1)).1 x = true then (gk l (r + 1)).2 else btv (gk l r) (gk l (r + 1)) x) := by
  unfold atP atS
  rw [c0, if_neg (by decide), c1, if_neg (by decide), c2, if_neg (by decide), hr]; rfl
 rw [hr] at f2 f3 f4
 refine ⟨r, hr, f2, f3, f4, e, ?_⟩
 rw [e]
 cases c3 : eqv (gk l (r + 1)).1 x
 ·rw [if_neg (by decide)]
  exact btv_law hv hx f2 f3 (eqv_false_lt (hv.nx f2).1 c0 f4 c3)
 ·rw [if_pos rfl]
  exact ⟨(hv.nx f2).2, (gk_ok hv.ok _).2, hv.ys (Nat.le_succ r) f2, Int.le_refl _⟩
theorem at_low {x : Nat} (c0 : isnan x = false) (c1 : lt (gk l 0).1 x = false) : atP l x = (gk l 0).2 := by
 unfold atP atS
 rw [c0, if_neg (by decide), c1, if_pos rfl]
theorem at_high {x : Nat} (c0 : isnan x = false) (c1 : lt (gk l 0).1 x = true) (c2 : lt x (gk l (l.length - 1)).1 = false) : atP l x = (gk l (l.length - 1)).2 := by
 unfold atP atS
 rw [c0, if_neg (by decide), c1, if_neg (by decide), c2, if_pos rfl]
/-- what a curve has lies between its ends -/
theorem at_law {x : Nat} (hx : x < 4294967296) (c0 : isnan x = false) : isnan (atP l x) = false ∧ atP l x < 4294967296 ∧ pz (gk l 0).2 ≤ pz (atP l x) ∧ pz (atP l x) ≤ pz (gk l (l.length - 1)).2 := by
 have two := hv.two
 cases c1 : lt (gk l 0).1 x
 ·rw [at_low hv c0 c1]
  exact ⟨(hv.nx (by omega)).2, (gk_ok hv.ok _).2, Int.le_refl _, hv.ys (Nat.zero_le _) (by omega)⟩
 ·cases c2 : lt x (gk l (l.length - 1)).1
  ·rw [at_high hv c0 c1 c2]
   exact ⟨(hv.nx (by omega)).2, (gk_ok hv.ok _).2, hv.ys (Nat.zero_le _) (by omega), Int.le_refl _⟩
  ·obtain ⟨r, _, hr, _, _, _, a1, a2, a3, a4⟩ := at_in hv hx c0 c1 c2
   have := hv.ys (Nat.zero_le r) (show r < l.length by omega)
   have := hv.ys (show r + 1 ≤ l.length - 1 by omega) (by omega)
   exact ⟨a1, a2, by omega, by omega⟩
/-- a curve rises -/
theorem at_mono {x x' : Nat} (hx : x < 4294967296) (hx' : x' < 4294967296) (c0 : isnan x = false) (c0' : isnan x' = false) (hle : pz x ≤ pz x') : pz (atP l x) ≤ pz (atP l x') := by
 have two := hv.two
 cases c1 : lt (gk l 0).1 x
 ·rw [at_low hv c0 c1]; exact (at_law hv hx' c0').2.2.1
 ·have d1 := lt_pz c1
  have c1' : lt (gk l 0).1 x' = true := by rw [nn_lt d1.1 c0', decide_eq_true (by omega)]
  cases c2' : lt x' (gk l (l.length - 1)).1
  ·rw [at_high hv c0' c1' c2']; exact (at_law hv hx c0).2.2.2
  ·have d2 := lt_pz c2'
   have c2 : lt x (gk l (l.length - 1)).1 = true := by rw [nn_lt c0 d2.2.1, decide_eq_true (by omega)]
   obtain ⟨r, hr, hr1, k1, k2, ke, a1, a2, a3, a4⟩ := at_in hv hx c0 c1 c2
   obtain ⟨s, hs, hs1, m1, m2, me, b1, b2, b3, b4⟩ := at_in hv hx' c0' c1' c2'
   have k1p := (lt_pz k1).2.2
   have m1p := (lt_pz m1).2.2
   rw [nn_lt (hv.nx hr1).1 c0] at k2
   rw [nn_lt (hv.nx hs1).1 c0'] at m2
   have k2 := of_decide_eq_false k2
   have m2 := of_decide_eq_false m2
   have hrs : r ≤ s := by
    rcases Nat.lt_or_ge s r with h | h
    ·rcases Nat.lt_or_eq_of_le (show s + 1 ≤ r by omega) with h2 | h2
     ·have := hv.xs h2 (by omega); omega
     ·rw [h2] at m2; omega
    ·exact h
   rcases Nat.lt_or_eq_of_le hrs with h | h
   ·have := hv.ys (show r + 1 ≤ s by omega) (by omega)
    omega
   ·subst h
    cases c3' : eqv (gk l (r + 1)).1 x'
    ·have e3 : eqv (gk l (r + 1)).1 x = false := by
      rw [nn_eq (hv.nx hr1).1 c0'] at c3'
      rw [nn_eq (hv.nx hr1).1 c0]
      have := of_decide_eq_false c3'
      exact decide_eq_false (by omega)
     rw [ke, me, c3', e3, if_neg (by decide), if_neg (by decide)]
     refine btv_mono hv hx hx' hr1 k1 ?_ m1 ?_ hle
     ·refine eqv_false_lt (hv.nx hr1).1 c0 ?_ e3
      rw [nn_lt (hv.nx hr1).1 c0]; exact decide_eq_false k2
     ·refine eqv_false_lt (hv.nx hr1).1 c0' ?_ c3'
      rw [nn_lt (hv.nx hr1).1 c0']; exact decide_eq_false m2
    ·rw [me, c3', if_pos rfl]; exact a4
end
theorem at_nan {l : List (Nat × Nat)} {x : Nat} (c0 : isnan x = true) : atP l x = made := by
 unfold atP atS
 rw [c0, if_pos rfl]
theorem at_lt {l : List (Nat × Nat)} (hv : Val l) {x : Nat} (hx : x < 4294967296) : atP l x < 4294967296 := by
 cases c0 : isnan x
 ·exact (at_law hv hx c0).2.1
 ·rw [at_nan c0]; decide
end Go.Proofs.Ytkicfaboibfbpaa.A
end
section
set_option linter.unusedVariables false
set_option linter.unusedSectionVars false
set_option linter.unusedSimpArgs false
namespace Go.Proofs.Ytkicfaboibfbpaa.A
/-- what a curve or a chain of them is: it rises -/
structure Ris (F : Nat → Nat) : Prop where
 word : ∀ x, x < 4294967296 → F x < 4294967296
 nn : ∀ x, x < 4294967296 → isnan x = false → isnan (F x) = false
 mono : ∀ x x', x < 4294967296 → x' < 4294967296 → isnan x = false → isnan x' = false → pz x ≤ pz x' → pz (F x) ≤ pz (F x')
theorem ris_at {l : List (Nat × Nat)} (hv : Val l) : Ris (atP l) := ⟨fun _ h => at_lt hv h, fun _ h h0 => (at_law hv h h0).1, fun _ _ h h' c c' hl => at_mono hv h h' c c' hl⟩
/-- curves one behind the other -/
def atA (ls : List (List (Nat × Nat))) (x : Nat) : Nat := ls.foldl (fun x l => atP l x) x
theorem ris_all : ∀ (ls : List (List (Nat × Nat))), (∀ l ∈ ls, Val l) → Ris (atA ls)
 | [], _ => ⟨fun _ h => h, fun _ _ h => h, fun _ _ _ _ _ _ h => h⟩
 | l :: t, h => by
  have h1 := ris_at (h l (by simp))
  have h2 := ris_all t (fun m hm => h m (by simp [hm]))
  exact ⟨fun x hx => h2.word _ (h1.word x hx), fun x hx hn => h2.nn _ (h1.word x hx) (h1.nn x hx hn), fun x x' hx hx' hn hn' hl => h2.mono _ _ (h1.word x hx) (h1.word x' hx') (h1.nn x hx hn) (h1.nn x' hx' hn') (h1.mono x x' hx hx' hn hn' hl)⟩
theorem isnan_pz {s : Nat} (h : s < 4294967296) : isnan s = decide (2139095040 < pz s ∨ pz s < -2139095040) := by
 unfold isnan pz
 rw [show (2 : Nat) ^ 23 = 8388608 by decide, ← Bool.decide_and, decide_eq_decide]
 split <;> constructor <;> intro h <;> omega
theorem pz_kf {x y : Nat} (hx : x < 4294967296) (hy : y < 4294967296) (h : kf x ≤ kf y) : pz x ≤ pz y := by
 unfold kf at h
 unfold pz
 by_cases c1 : x < 2147483648
 ·by_cases c2 : y < 2147483648
  ·rw [if_pos c1, if_pos c2] at h ⊢; omega
  ·rw [if_pos c1, if_neg c2] at h ⊢; omega
 ·by_cases c2 : y < 2147483648
  ·rw [if_neg c1, if_pos c2] at h ⊢; omega
  ·rw [if_neg c1, if_neg c2] at h ⊢; omega
theorem nn_between {lo hi x : Nat} (h1 : lo < 4294967296) (h2 : hi < 4294967296) (h3 : x < 4294967296) (n1 : isnan lo = false) (n2 : isnan hi = false) (k1 : kf lo ≤ kf x) (k2 : kf x ≤ kf hi) : isnan x = false := by
 have a := pz_kf h1 h3 k1
 have b := pz_kf h3 h2 k2
 rw [isnan_pz h1] at n1
 rw [isnan_pz h2] at n2
 rw [isnan_pz h3]
 simp only [decide_eq_false_iff_not] at *
 omega
theorem kf_word {s : Nat} (h : s < 4294967296) : kf s < 4294967296 := by unfold kf; split <;> omega
theorem fk_word {s : Nat} (h : s < 4294967296) : fk s < 4294967296 := by unfold fk; split <;> omega
theorem kf_fk' {s : Nat} (h : s < 4294967296) : kf (fk s) = s := by unfold fk kf; split <;> split <;> omega
theorem fk_kf' {s : Nat} (h : s < 4294967296) : fk (kf s) = s := by unfold fk kf; split <;> split <;> omega
/-- where a search ends -/
def fs (p : Nat → Bool) : Nat → Nat
 | 0 => 0
 | n + 1 => if p 0 = true then 0 else fs (fun i => p (i + 1)) n + 1
theorem fs_srch : ∀ (n : Nat) (p : Nat → Bool), Srch p n (fs p n)
 | 0, _ => ⟨Nat.le_refl _, .inl rfl, .inl rfl⟩
 | n + 1, p => by
  unfold fs
  split
  ·exact ⟨Nat.zero_le _, .inl rfl, .inr (by assumption)⟩
  ·obtain ⟨h1, h2, h3⟩ := fs_srch n (fun i => p (i + 1))
   refine ⟨by omega, .inr ?_, ?_⟩
   ·rcases h2 with h2 | h2
    ·rw [h2]; simpa using ‹¬ p 0 = true›
    ·rcases Nat.eq_zero_or_pos (fs (fun i => p (i + 1)) n) with h0 | h0
     ·rw [h0]; simpa using ‹¬ p 0 = true›
     ·rw [show fs (fun i => p (i + 1)) n + 1 - 1 = (fs (fun i => p (i + 1)) n - 1) + 1 by omega]; exact h2
   ·rcases h3 with h3 | h3
    ·exact .inl (by omega)
    ·exact .inr h3
theorem srch_uniq {p : Nat → Bool} {n r q : Nat} (hm : ∀ i j, i ≤ j → j < n → p i = true → p j = true) (h : Srch p n r) (h2 : Srch p n q) : r = q := by
 have key : ∀ {r q : Nat}, Srch p n r → Srch p n q → ¬ r < q := by
  intro r q h h2 hlt
  have a : p r = true := by
   rcases h.2.2 with e | e
   ·have := h2.1; omega
   ·exact e
  have b : p (q - 1) = false := by
   rcases h2.2.1 with e | e
   ·omega
   ·exact e
  have := hm r (q - 1) (by omega) (by have := h2.1; omega) a
  rw [this] at b; cases b
 have a := key h h2
 have b := key h2 h
 omega
section
variable {F : Nat → Nat} (hF : Ris F) {lo hi : Nat} (h1 : lo < 4294967296) (h2 : hi < 4294967296) (n1 : isnan lo = false) (n2 : isnan hi = false) (hk : kf lo ≤ kf hi)
include hF h1 h2 n1 n2 hk
/-- is y reached at a key? -/
theorem rs_mono {y : Nat} (hy : y < 4294967296) (ny : isnan y = false) (i j : Nat) (hij : i ≤ j) (hj : j ≤ kf hi - kf lo) (hp : (!lt (F (fk (kf lo + i))) y) = true) : (!lt (F (fk (kf lo + j))) y) = true := by
 have hw := kf_word h2
 have e1 := kf_fk' (s := kf lo + i) (by omega)
 have e2 := kf_fk' (s := kf lo + j) (by omega)
 have w1 := fk_word (s := kf lo + i) (by omega)
 have w2 := fk_word (s := kf lo + j) (by omega)
 have m1 := nn_between h1 h2 w1 n1 n2 (by omega) (by omega)
 have m2 := nn_between h1 h2 w2 n1 n2 (by omega) (by omega)
 have hm := hF.mono _ _ w1 w2 m1 m2 (pz_kf w1 w2 (by omega))
 rw [nn_lt (hF.nn _ w1 m1) ny] at hp
 rw [nn_lt (hF.nn _ w2 m2) ny]
 simp only [Bool.not_eq_true', decide_eq_false_iff_not] at *
 omega
end
/-- where y is reached first: the sample, the one below, whether there is one, the error -/
def lstN (F : Nat → Nat) (lo hi y : Nat) : Nat := fs (fun i => !lt (F (fk (kf lo + i))) y) (kf hi - kf lo)
def noY (F : Nat → Nat) (hi y : Nat) : Bool := isnan y || lt (F hi) y
structure Pf where
 X : Nat
 B : Nat
 H : Bool
deriving DecidableEq
def lst (F : Nat → Nat) (lo hi y : Nat) : Pf :=
 if noY F hi y = true then ⟨0, 0, false⟩ else if lstN F lo hi y = 0 then ⟨lo, 0, false⟩ else ⟨fk (kf lo + lstN F lo hi y), fk (kf lo + lstN F lo hi y - 1), true⟩
def rch (F : Nat → Nat) (x y : Nat) : Bool := lt y (F x) || eqv y (F x)
/-- what Check answers -/
def ckP (F : Nat → Nat) (lo hi y : Nat) (p : Pf) : Bool :=
 if isnan y = true then false else if kf p.X < kf lo then false else if kf hi < kf p.X then false else if rch F p.X y = false then false else if p.H ≠ decide (p.X ≠ lo) then false
 else if p.H = false then decide (p.B = 0) else decide (kf p.X ≠ 0) && (decide (p.B = (if kf p.X = 0 then 0 else fk (kf p.X - 1))) && !rch F (if kf p.X = 0 then 0 else fk (kf p.X - 1)) y)
theorem rch_lt {F : Nat → Nat} {x y : Nat} (hx : isnan (F x) = false) (hy : isnan y = false) : rch F x y = !lt (F x) y := by
 unfold rch
 rw [nn_lt hy hx, nn_lt hx hy, nn_eq hy hx, ← Bool.decide_or, ← decide_not, decide_eq_decide]
 omega
theorem lst_no {F : Nat → Nat} {lo hi y : Nat} (h : noY F hi y = true) : lst F lo hi y = ⟨0, 0, false⟩ := by unfold lst; rw [if_pos h]
theorem lst_0 {F : Nat → Nat} {lo hi y : Nat} (h : noY F hi y = false) (h0 : lstN F lo hi y = 0) : lst F lo hi y = ⟨lo, 0, false⟩ := by unfold lst; rw [h, if_neg (by decide), if_pos h0]
theorem lst_n {F : Nat → Nat} {lo hi y : Nat} (h : noY F hi y = false) (h0 : lstN F lo hi y ≠ 0) : lst F lo hi y = ⟨fk (kf lo + lstN F lo hi y), fk (kf lo + lstN F lo hi y - 1), true⟩ := by unfold lst; rw [h, if_neg (by decide), if_neg h0]
section
variable {F : Nat → Nat} (hF : Ris F) {lo hi : Nat} (h1 : lo < 4294967296) (h2 : hi < 4294967296) (n1 : isnan lo = false) (n2 : isnan hi = false) (hk : kf lo ≤ kf hi)
include hF h1 h2 n1 n2 hk
/-- the sample that is told lies within -/
theorem lst_X (y : Nat) (hno : noY F hi y = false) : (lst F lo hi y).X = fk (kf lo + lstN F lo hi y) ∧ lstN F lo hi y ≤ kf hi - kf lo ∧ kf (lst F lo hi y).X = kf lo + lstN F lo hi y ∧ (lst F lo hi y).X < 4294967296 := by
 have hw := kf_word h2
 have hs : lstN F lo hi y ≤ kf hi - kf lo := (fs_srch (kf hi - kf lo) (fun i => !lt (F (fk (kf lo + i))) y)).1
 have e : (lst F lo hi y).X = fk (kf lo + lstN F lo hi y) := by
  by_cases h0 : lstN F lo hi y = 0
  ·rw [lst_0 hno h0, h0, Nat.add_zero, fk_kf' h1]
  ·rw [lst_n hno h0]
 rw [e]
 exact ⟨rfl, hs, kf_fk' (by omega), fk_word (by omega)⟩
theorem check_lst {y : Nat} (hy : y < 4294967296) (p : Pf) (hX : p.X < 4294967296) : ckP F lo hi y p = (!noY F hi y && decide (p = lst F lo hi y)) := by
 obtain ⟨X, B, H⟩ := p
 have hX : X < 4294967296 := hX
 have hw := kf_word h2
 have hkX := kf_word hX
 unfold ckP
 simp only
 have hne : kf X < kf lo ∨ kf hi < kf X → noY F hi y = false → decide ((⟨X, B, H⟩ : Pf) = lst F lo hi y) = false := by
  intro h hno
  rw [decide_eq_false_iff_not]
  intro e
  obtain ⟨_, a, b, _⟩ := lst_X hF h1 h2 n1 n2 hk y hno
  rw [← e] at b
  have b : kf X = kf lo + lstN F lo hi y := b
  omega
 cases ny : isnan y
 ·rw [if_neg (by decide)]
  by_cases k1 : kf X < kf lo
  ·rw [if_pos k1]
   cases hno : noY F hi y
   ·rw [hne (.inl k1) hno]; rfl
   ·rfl
  ·rw [if_neg k1]
   by_cases k2 : kf hi < kf X
   ·rw [if_pos k2]
    cases hno : noY F hi y
    ·rw [hne (.inr k2) hno]; rfl
    ·rfl
   ·rw [if_neg k2]
    have nX := nn_between h1 h2 hX n1 n2 (by omega) (by omega)
    obtain ⟨q, hq⟩ : ∃ q, q = kf X - kf lo := ⟨_, rfl⟩
    have eX : X = fk (kf lo + q) := by rw [hq, show kf lo + (kf X - kf lo) = kf X by omega, fk_kf' hX]
    have ekX : kf X = kf lo + q := by omega
    rw [rch_lt (hF.nn _ hX nX) ny]
    have mono := fun i j => rs_mono hF h1 h2 n1 n2 hk hy ny i j
    cases hno : noY F hi y
    ·obtain ⟨r, hr⟩ : ∃ r, r = lstN F lo hi y := ⟨_, rfl⟩
     have hs : Srch (fun i => !lt (F (fk (kf lo + i))) y) (kf hi - kf lo) r := by rw [hr]; exact fs_srch _ _
     have hpr : (!lt (F (fk (kf lo + r))) y) = true := by
      rcases hs.2.2 with e | e
      ·unfold noY at hno
       rw [ny, Bool.false_or] at hno
       rw [e, show kf lo + (kf hi - kf lo) = kf hi by omega, fk_kf' h2, hno]; rfl
      ·exact e
     have hsr := hs.1
     obtain ⟨_, _, eL, _⟩ := lst_X hF h1 h2 n1 n2 hk y hno
     rw [← hr] at eL
     have hXr : (⟨X, B, H⟩ : Pf) = lst F lo hi y → q = r := by
      intro e
      rw [← e] at eL
      have eL : kf X = kf lo + r := eL
      omega
     rw [Bool.not_false, Bool.true_and]
     cases hp : !lt (F X) y
     ·rw [if_pos rfl]
      symm
      rw [decide_eq_false_iff_not]
      intro e
      have := hXr e
      rw [eX, this, hpr] at hp
      cases hp
     ·rw [if_neg (show ¬ (true = false) by decide)]
      have hrq : r ≤ q := by
       rcases Nat.lt_or_ge q r with h | h
       ·have hf : (!lt (F (fk (kf lo + (r - 1)))) y) = false := by
         rcases hs.2.1 with e | e
         ·omega
         ·exact e
        have := mono q (r - 1) (by omega) (by omega) (by rw [← eX]; exact hp)
        rw [this] at hf; cases hf
       ·exact h
      by_cases hXl : X = lo
      ·have hq0 : q = 0 := by rw [hq, hXl]; omega
       have hr0 : lstN F lo hi y = 0 := by omega
       have hd : decide (X ≠ lo) = false := decide_eq_false (fun h => h hXl)
       rw [hd, lst_0 hno hr0]
       cases H
       ·rw [if_neg (show ¬ (false ≠ false) from fun h => h rfl), if_pos rfl, decide_eq_decide]
        constructor
        ·intro e; rw [e, hXl]
        ·intro e; injection e
       ·rw [if_pos (show true ≠ false by decide)]
        symm
        rw [decide_eq_false_iff_not]
        intro e
        injection e with _ _ e
        cases e
      ·have hq0 : q ≠ 0 := by intro e; apply hXl; rw [eX, e, Nat.add_zero, fk_kf' h1]
       have hd : decide (X ≠ lo) = true := decide_eq_true hXl
       rw [hd]
       cases H
       ·rw [if_pos (show false ≠ true by decide)]
        symm
        rw [decide_eq_false_iff_not]
        intro e
        have e2 := hXr e
        rw [lst_n hno (by omega)] at e
        injection e with _ _ e
        cases e
       ·rw [if_neg (show ¬ (true ≠ true) from fun h => h rfl), if_neg (show ¬ (true = false) by decide)]
        have hkx0 : kf X ≠ 0 := by omega
        rw [if_neg hkx0, decide_eq_true hkx0, Bool.true_and]
        have wP := fk_word (s := kf X - 1) (by omega)
        have nP := nn_between h1 h2 wP n1 n2 (by rw [kf_fk' (by omega)]; omega) (by rw [kf_fk' (by omega)]; omega)
        rw [rch_lt (hF.nn _ wP nP) ny, Bool.not_not]
        have eP : kf X - 1 = kf lo + (q - 1) := by omega
        rw [eP]
        by_cases hrq2 : q = r
        ·have hl : lt (F (fk (kf lo + (q - 1)))) y = true := by
          rw [hrq2]
          rcases hs.2.1 with e | e
          ·omega
          ·simpa using e
         rw [hl, Bool.and_true, lst_n hno (by omega), ← hr, decide_eq_decide]
         have e5 : kf lo + (q - 1) = kf lo + r - 1 := by omega
         rw [e5]
         constructor
         ·intro e; rw [e]; congr 1; rw [eX, hrq2]
         ·intro e; injection e
        ·have hl : lt (F (fk (kf lo + (q - 1)))) y = false := by
          have := mono r (q - 1) (by omega) (by omega) hpr
          simpa using this
         rw [hl, Bool.and_false]
         symm
         rw [decide_eq_false_iff_not]
         intro e
         exact hrq2 (hXr e)
    ·unfold noY at hno
     rw [ny, Bool.false_or] at hno
     have : (!lt (F X) y) = false := by
      cases hp : !lt (F X) y
      ·rfl
      ·have := mono q (kf hi - kf lo) (by omega) (Nat.le_refl _) (by rw [← eX]; exact hp)
       rw [show kf lo + (kf hi - kf lo) = kf hi by omega, fk_kf' h2, hno] at this
       cases this
     rw [this, if_pos rfl]; rfl
 ·rw [if_pos rfl]
  have : noY F hi y = true := by unfold noY; rw [ny]; rfl
  rw [this]; rfl
end
end Go.Proofs.Ytkicfaboibfbpaa.A
end
section
set_option linter.unusedVariables false
set_option linter.unusedSimpArgs false
namespace Go.Proofs.Ytkicfaboibfbpaa.A
open Go.RowKit Go.Proofs.YtkicfaboibfbpaaW.PrintWords Go.Proofs.YtkicfaboibfbpaaW.PrintLast Go.Proofs.YtkicfaboibfbpaaW.PrintMore Go.Proofs.Ytkicfaboibfbpaa.PCurveAts
section
variable {P : Program} {ops : Array Oper} {Q : Exit → Act → World → Prop} {oi : Oper} {N : Option Tmp} {w : World} {K : Act → World → Prop} {a : Act}
/-- a call through an interface value, in a drawn region -/
theorem goesM_ {f : FuncId} {os : Array Operand} {ts : Array TypeId} {tr : Operand} {name : String} (r : Value) (args : Array Value) (cargs : Array Value) (hi : (invoke (.fn (.method name) #[]) (#[r] ++ args)).run P w = .ok (.enter f cargs) w)
    (hw : Region.wanted oi (yielded ops a.tmps) = true) (hN : oi.dst = N) (hop : oi.op = .call { callee := .invoke tr name, args := os, argTypes := ts }) (htr : a.eval tr = r) (hargs : os.map a.eval = args)
    (h : Calls P f cargs w fun e w' => ∃ v, e = .returned v ∧ K (a.put N v) w') : if Region.wanted oi (yielded ops a.tmps) = true then Oper.wp P oi a w K Q else K (a.put N undef) w := by
 refine call_ f cargs hw hN ?_ h
 unfold execOp
 simp [hop, resolve, htr, hargs, hi]
end
/-- a curve asked -/
theorem inv_c (g x : Nat) (w : World) : (invoke (.fn (.method "At") #[]) #[.iface 26 (.pointer (some ⟨g, 0, none⟩)), .int .u32 (x : Int)]).run Try.prog w = .ok (.enter 17 #[.pointer (some ⟨g, 0, none⟩), .int .u32 (x : Int)]) w := by kernel_rfl
/-- a chain asked -/
theorem inv_h (g x : Nat) (w : World) : (invoke (.fn (.method "At") #[]) #[.iface 48 (.pointer (some ⟨g, 0, none⟩)), .int .u32 (x : Int)]).run Try.prog w = .ok (.enter 22 #[.pointer (some ⟨g, 0, none⟩), .int .u32 (x : Int)]) w := by kernel_rfl
theorem ends_calls (g : Nat) (A : Option Addr) (c : Nat) (l : List (Nat × Nat)) (hv : Val l) (w : World) (hC : CvB w g A c l) :
    Calls Try.prog 40 #[.pointer (some ⟨g, 0, none⟩)] w fun e w' => e = .returned (.tuple #[.int .u32 ((gk l 0).1 : Int), .int .u32 ((gk l (l.length - 1)).1 : Int)]) ∧ Below w.heap.size w w' := by
 obtain ⟨m, hm⟩ : ∃ m, l.length = m + 1 := ⟨l.length - 1, by have := hv.two; omega⟩
 have hC0 := hC.2.2
 obtain ⟨ad, rfl, _⟩ := kn_at hC0 0 (by omega)
 have h64 := hv.most
 have d1 : decide ((0 : Int) ≤ (m : Int)) = true := decide_eq_true (by omega)
 have d2 : decide ((m : Int) < (l.length : Int)) = true := decide_eq_true (by omega)
 have d3 : decide ((0 : Int) < (l.length : Int)) = true := decide_eq_true (by omega)
 have d4 : (0 < l.length) = True := eq_true (by omega)
 have d5 : ((0 : Int) ≤ (m : Int)) = True := eq_true (by omega)
 have d6 : ((m : Int) < (l.length : Int)) = True := eq_true (by omega)
 have d7 : (m < l.length) = True := eq_true (by omega)
 have wn : IntKind.i64.wrap ((l.length : Int) - 1) = (m : Int) := by rw [show IntKind.i64.wrap ((l.length : Int) - 1) = wrap64 ((l.length : Int) - 1) from i64_w _, w64 (by omega) (by omega)]; omega
 have gs := (blk_cell hC.1 0).trans rfl
 obtain ⟨a0, a1⟩ := kn_at0 hC0 (by omega)
 obtain ⟨n0, n1⟩ := kn_at2 hC0 m (by omega)
 have LC := Aside0.mk hC.2.1
 have LK := Aside0.mk hC0
 have LM : Aside0 (l.length < 1000) := ⟨by omega⟩
 have L0 : Aside0 (0 < l.length) := ⟨by omega⟩
 rw [show l.length - 1 = m by omega]
 clear hC hC0 hv h64 hm a1 n1
 go_enter Try.func40, Try.ntmps40
 go_wp2
 refine start_ (n := 22) (S := fun w' => w'.cell? ⟨g, 0, none⟩ = some (.slice (some ad) l.length c) ∧ w'.cell? ad = some (.int .u32 ((gk l 0).1 : Int)) ∧ w'.cell? (ad.add (m * 2)) = some (.int .u32 ((gk l m).1 : Int))) (ds := []) #[ff_,ff_,ff_,ff_,ff_,ff_,ff_,ff_,ff_,ff_,ff_,ff_,ff_,ff_,ff_,ff_,ff_,ff_,ff_,ff_,ff_,ff_] (by kernel_rfl) rfl rfl ⟨gs, a0, n0⟩ (fun hHeld => ?_)
 refine pure_ (i := 0) (N := some 4) (v := ?_) (a' := ?_) #[tt_,ff_,ff_,ff_,ff_,ff_,ff_,ff_,ff_,ff_,ff_,ff_,ff_,ff_,ff_,ff_,ff_,ff_,ff_,ff_,ff_,ff_] rfl rfl (by kernel_rfl) (fun _ _ _ h => h) (Or.inl ⟨by rfl, ?_⟩) ?_ ?_
 rotate_left
 ·intro w'
  go_simp
  with_reducible rfl
 rotate_left
 ·simp only [Act.put, List.setIfInBounds_toArray, List.set_cons_zero, List.set_cons_succ, i64_w, i32_w]
  rfl
 refine pure_ (i := 1) (N := some 5) (v := ?_) (a' := ?_) #[tt_,tt_,ff_,ff_,ff_,ff_,ff_,ff_,ff_,ff_,ff_,ff_,ff_,ff_,ff_,ff_,ff_,ff_,ff_,ff_,ff_,ff_] rfl rfl (by kernel_rfl) (fun _ _ _ h => h) (Or.inl ⟨by rfl, ?_⟩) ?_ ?_
 rotate_left
 ·intro w'
  go_simp
  with_reducible rfl
 rotate_left
 ·simp only [Act.put, List.setIfInBounds_toArray, List.set_cons_zero, List.set_cons_succ, i64_w, i32_w]
  rfl
 refine pure_ (i := 2) (N := some 6) (v := ?_) (a' := ?_) #[tt_,tt_,tt_,ff_,ff_,ff_,ff_,ff_,ff_,ff_,ff_,ff_,ff_,ff_,ff_,ff_,ff_,ff_,ff_,ff_,ff_,ff_] rfl rfl (by kernel_rfl) (fun _ _ _ h => h) (Or.inl ⟨by rfl, ?_⟩) ?_ ?_
 rotate_left
 ·intro w'
  go_simp
  with_reducible rfl
 rotate_left
 ·simp only [Act.put, List.setIfInBounds_toArray, List.set_cons_zero, List.set_cons_succ, i64_w, i32_w]
  rfl
 refine pure_ (i := 7) (N := some 11) (v := ?_) (a' := ?_) #[tt_,tt_,tt_,ff_,ff_,ff_,ff_,tt_,ff_,ff_,ff_,ff_,ff_,ff_,ff_,ff_,ff_,ff_,ff_,ff_,ff_,ff_] rfl rfl (by kernel_rfl) (fun _ _ _ h => h) (Or.inl ⟨by rfl, ?_⟩) ?_ ?_
 rotate_left
 ·intro w'
  go_simp
  with_reducible rfl
 rotate_left
 ·simp only [Act.put, List.setIfInBounds_toArray, List.set_cons_zero, List.set_cons_succ, i64_w, i32_w]
  rfl
 refine pure_ (i := 8) (N := some 12) (v := ?_) (a' := ?_) #[tt_,tt_,tt_,ff_,ff_,ff_,ff_,tt_,tt_,ff_,ff_,ff_,ff_,ff_,ff_,ff_,ff_,ff_,ff_,ff_,ff_,ff_] rfl rfl (by kernel_rfl) (fun _ _ _ h => h) (Or.inl ⟨by rfl, ?_⟩) ?_ ?_
 rotate_left
 ·intro w'
  go_simp
  with_reducible rfl
 rotate_left
 ·simp only [Act.put, List.setIfInBounds_toArray, List.set_cons_zero, List.set_cons_succ, i64_w, i32_w]
  rfl
 refine pure_ (i := 9) (N := some 13) (v := ?_) (a' := ?_) #[tt_,tt_,tt_,ff_,ff_,ff_,ff_,tt_,tt_,tt_,ff_,ff_,ff_,ff_,ff_,ff_,ff_,ff_,ff_,ff_,ff_,ff_] rfl rfl (by kernel_rfl) (fun _ _ _ h => h) (Or.inl ⟨by rfl, ?_⟩) ?_ ?_
 rotate_left
 ·intro w'
  go_simp
  with_reducible rfl
 rotate_left
 ·simp only [Act.put, List.setIfInBounds_toArray, List.set_cons_zero, List.set_cons_succ, i64_w, i32_w]
  rfl
 refine pure_ (i := 11) (N := some 15) (v := ?_) (a' := ?_) #[tt_,tt_,tt_,ff_,ff_,ff_,ff_,tt_,tt_,tt_,ff_,tt_,ff_,ff_,ff_,ff_,ff_,ff_,ff_,ff_,ff_,ff_] rfl rfl (by kernel_rfl) (fun _ _ _ h => h) (Or.inl ⟨by rfl, ?_⟩) ?_ ?_
 rotate_left
 ·intro w'
  go_simp
  with_reducible rfl
 rotate_left
 ·simp only [Act.put, List.setIfInBounds_toArray, List.set_cons_zero, List.set_cons_succ, i64_w, i32_w]
  rfl
 refine pure_ (i := 12) (N := some 16) (v := ?_) (a' := ?_) #[tt_,tt_,tt_,ff_,ff_,ff_,ff_,tt_,tt_,tt_,ff_,tt_,tt_,ff_,ff_,ff_,ff_,ff_,ff_,ff_,ff_,ff_] rfl rfl (by kernel_rfl) (fun _ _ _ h => h) (Or.inl ⟨by rfl, ?_⟩) ?_ ?_
 rotate_left
 ·intro w'
  go_simp
  with_reducible rfl
 rotate_left
 ·simp only [Act.put, List.setIfInBounds_toArray, List.set_cons_zero, List.set_cons_succ, i64_w, i32_w]
  rfl
 refine pure_ (i := 13) (N := some 17) (v := ?_) (a' := ?_) #[tt_,tt_,tt_,ff_,ff_,ff_,ff_,tt_,tt_,tt_,ff_,tt_,tt_,tt_,ff_,ff_,ff_,ff_,ff_,ff_,ff_,ff_] rfl rfl (by kernel_rfl) (fun _ _ _ h => h) (Or.inl ⟨by rfl, ?_⟩) ?_ ?_
 rotate_left
 ·intro w'
  go_simp
  with_reducible rfl
 rotate_left
 ·simp only [Act.put, List.setIfInBounds_toArray, List.set_cons_zero, List.set_cons_succ, i64_w, i32_w]
  rfl
 refine take_ (i := 3) (N := some 7) (v := ?_) (a' := ?_) #[tt_,tt_,tt_,tt_,ff_,ff_,ff_,tt_,tt_,tt_,ff_,tt_,tt_,tt_,ff_,ff_,ff_,ff_,ff_,ff_,ff_,ff_] rfl rfl (by kernel_rfl) (fun _ _ _ h => h) (Or.inl ⟨by rfl, ?_⟩) hHeld ?_ ?_
 rotate_left
 ·rintro w' ⟨s0, s1, s2⟩
  go_simp
  with_reducible rfl
 rotate_left
 ·simp only [Act.put, List.setIfInBounds_toArray, List.set_cons_zero, List.set_cons_succ, i64_w, i32_w]
  rfl
 refine pure_ (i := 4) (N := some 8) (v := ?_) (a' := ?_) #[tt_,tt_,tt_,tt_,tt_,ff_,ff_,tt_,tt_,tt_,ff_,tt_,tt_,tt_,ff_,ff_,ff_,ff_,ff_,ff_,ff_,ff_] rfl rfl (by kernel_rfl) (fun _ _ _ h => h) (Or.inl ⟨by rfl, ?_⟩) ?_ ?_
 rotate_left
 ·intro w'
  go_simp
  with_reducible rfl
 rotate_left
 ·simp only [Act.put, List.setIfInBounds_toArray, List.set_cons_zero, List.set_cons_succ, i64_w, i32_w]
  rfl
 refine pure_ (i := 5) (N := some 9) (v := ?_) (a' := ?_) #[tt_,tt_,tt_,tt_,tt_,tt_,ff_,tt_,tt_,tt_,ff_,tt_,tt_,tt_,ff_,ff_,ff_,ff_,ff_,ff_,ff_,ff_] rfl rfl (by kernel_rfl) (fun _ _ _ h => h) (Or.inl ⟨by rfl, ?_⟩) ?_ ?_
 rotate_left
 ·intro w'
  go_simp
  with_reducible rfl
 rotate_left
 ·simp only [Act.put, List.setIfInBounds_toArray, List.set_cons_zero, List.set_cons_succ, i64_w, i32_w]
  rfl
 refine take_ (i := 6) (N := some 10) (v := ?_) (a' := ?_) #[tt_,tt_,tt_,tt_,tt_,tt_,tt_,tt_,tt_,tt_,ff_,tt_,tt_,tt_,ff_,ff_,ff_,ff_,ff_,ff_,ff_,ff_] rfl rfl (by kernel_rfl) (fun _ _ _ h => h) (Or.inl ⟨by rfl, ?_⟩) hHeld ?_ ?_
 rotate_left
 ·rintro w' ⟨s0, s1, s2⟩
  go_simp
  with_reducible rfl
 rotate_left
 ·simp only [Act.put, List.setIfInBounds_toArray, List.set_cons_zero, List.set_cons_succ, i64_w, i32_w]
  rfl
 refine pure_ (i := 20) (N := some 2) (v := ?_) (a' := ?_) #[tt_,tt_,tt_,tt_,tt_,tt_,tt_,tt_,tt_,tt_,ff_,tt_,tt_,tt_,ff_,ff_,ff_,ff_,ff_,ff_,tt_,ff_] rfl rfl (by kernel_rfl) (fun _ _ _ h => h) (Or.inl ⟨by rfl, ?_⟩) ?_ ?_
 rotate_left
 ·intro w'
  go_simp
  with_reducible rfl
 rotate_left
 ·simp only [Act.put, List.setIfInBounds_toArray, List.set_cons_zero, List.set_cons_succ, i64_w, i32_w]
  rfl
 refine take_ (i := 10) (N := some 14) (v := ?_) (a' := ?_) #[tt_,tt_,tt_,tt_,tt_,tt_,tt_,tt_,tt_,tt_,tt_,tt_,tt_,tt_,ff_,ff_,ff_,ff_,ff_,ff_,tt_,ff_] rfl rfl (by kernel_rfl) (fun _ _ _ h => h) (Or.inl ⟨by rfl, ?_⟩) hHeld ?_ ?_
 rotate_left
 ·rintro w' ⟨s0, s1, s2⟩
  go_simp
  with_reducible rfl
 rotate_left
 ·simp only [Act.put, List.setIfInBounds_toArray, List.set_cons_zero, List.set_cons_succ, i64_w, i32_w]
  rfl
 refine take_ (i := 14) (N := some 18) (v := ?_) (a' := ?_) #[tt_,tt_,tt_,tt_,tt_,tt_,tt_,tt_,tt_,tt_,tt_,tt_,tt_,tt_,tt_,ff_,ff_,ff_,ff_,ff_,tt_,ff_] rfl rfl (by kernel_rfl) (fun _ _ _ h => h) (Or.inl ⟨by rfl, ?_⟩) hHeld ?_ ?_
 rotate_left
 ·rintro w' ⟨s0, s1, s2⟩
  go_simp
  with_reducible rfl
 rotate_left
 ·simp only [Act.put, List.setIfInBounds_toArray, List.set_cons_zero, List.set_cons_succ, i64_w, i32_w]
  rfl
 refine pure_ (i := 15) (N := some 19) (v := ?_) (a' := ?_) #[tt_,tt_,tt_,tt_,tt_,tt_,tt_,tt_,tt_,tt_,tt_,tt_,tt_,tt_,tt_,tt_,ff_,ff_,ff_,ff_,tt_,ff_] rfl rfl (by kernel_rfl) (fun _ _ _ h => h) (Or.inl ⟨by rfl, ?_⟩) ?_ ?_
 rotate_left
 ·intro w'
  go_simp
  with_reducible rfl
 rotate_left
 ·simp only [Act.put, List.setIfInBounds_toArray, List.set_cons_zero, List.set_cons_succ, i64_w, i32_w]
  rfl
 refine pure_ (i := 16) (N := some 20) (v := ?_) (a' := ?_) #[tt_,tt_,tt_,tt_,tt_,tt_,tt_,tt_,tt_,tt_,tt_,tt_,tt_,tt_,tt_,tt_,tt_,ff_,ff_,ff_,tt_,ff_] rfl rfl (by kernel_rfl) (fun _ _ _ h => h) (Or.inl ⟨by rfl, ?_⟩) ?_ ?_
 rotate_left
 ·intro w'
  go_simp
  with_reducible rfl
 rotate_left
 ·simp only [Act.put, List.setIfInBounds_toArray, List.set_cons_zero, List.set_cons_succ, i64_w, i32_w]
  rfl
 refine pure_ (i := 17) (N := some 21) (v := ?_) (a' := ?_) #[tt_,tt_,tt_,tt_,tt_,tt_,tt_,tt_,tt_,tt_,tt_,tt_,tt_,tt_,tt_,tt_,tt_,tt_,ff_,ff_,tt_,ff_] rfl rfl (by kernel_rfl) (fun _ _ _ h => h) (Or.inl ⟨by rfl, ?_⟩) ?_ ?_
 rotate_left
 ·intro w'
  go_simp
  with_reducible rfl
 rotate_left
 ·simp only [Act.put, List.setIfInBounds_toArray, List.set_cons_zero, List.set_cons_succ, i64_w, i32_w]
  rfl
 refine pure_ (i := 18) (N := some 22) (v := ?_) (a' := ?_) #[tt_,tt_,tt_,tt_,tt_,tt_,tt_,tt_,tt_,tt_,tt_,tt_,tt_,tt_,tt_,tt_,tt_,tt_,tt_,ff_,tt_,ff_] rfl rfl (by kernel_rfl) (fun _ _ _ h => h) (Or.inl ⟨by rfl, ?_⟩) ?_ ?_
 rotate_left
 ·intro w'
  go_simp
  with_reducible rfl
 rotate_left
 ·simp only [Act.put, List.setIfInBounds_toArray, List.set_cons_zero, List.set_cons_succ, i64_w, i32_w]
  rfl
 refine take_ (i := 19) (N := some 23) (v := ?_) (a' := ?_) #[tt_,tt_,tt_,tt_,tt_,tt_,tt_,tt_,tt_,tt_,tt_,tt_,tt_,tt_,tt_,tt_,tt_,tt_,tt_,tt_,tt_,ff_] rfl rfl (by kernel_rfl) (fun _ _ _ h => h) (Or.inl ⟨by rfl, ?_⟩) hHeld ?_ ?_
 rotate_left
 ·rintro w' ⟨s0, s1, s2⟩
  go_simp
  with_reducible rfl
 rotate_left
 ·simp only [Act.put, List.setIfInBounds_toArray, List.set_cons_zero, List.set_cons_succ, i64_w, i32_w]
  rfl
 refine pure_ (i := 21) (N := some 3) (v := ?_) (a' := ?_) #[tt_,tt_,tt_,tt_,tt_,tt_,tt_,tt_,tt_,tt_,tt_,tt_,tt_,tt_,tt_,tt_,tt_,tt_,tt_,tt_,tt_,tt_] rfl rfl (by kernel_rfl) (fun _ _ _ h => h) (Or.inl ⟨by rfl, ?_⟩) ?_ ?_
 rotate_left
 ·intro w'
  go_simp
  with_reducible rfl
 rotate_left
 ·simp only [Act.put, List.setIfInBounds_toArray, List.set_cons_zero, List.set_cons_succ, i64_w, i32_w]
  rfl
 refine done_ (by kernel_rfl) ?_
 go_wp2
 go_ret2
 exact ⟨rfl, by repeat (first | exact Below.refl _ _ | apply pw_below_drewN)⟩
set_option maxHeartbeats 4000000 in
theorem closure56c_calls (bf ba bq g a y i : Nat) (F : Nat → Nat) (w : World) (hy : y < 4294967296) (hF : ∀ x, x < 4294967296 → F x < 4294967296) (hai : a + i < 4294967296)
    (hA : ∀ (W : World) (x : Nat), x < 4294967296 → Below w.heap.size w W → Calls Try.prog 17 #[.pointer (some ⟨g, 0, none⟩), .int .u32 (x : Int)] W fun e w' => e = .returned (.int .u32 ((F x : Nat) : Int)) ∧ Below W.heap.size W w')
    (cf : w.cell? ⟨bf, 0, none⟩ = some (.iface 26 (.pointer (some ⟨g, 0, none⟩)))) (ca : w.cell? ⟨ba, 0, none⟩ = some (.int .i64 (a : Int))) (cy : w.cell? ⟨bq, 0, none⟩ = some (.int .u32 (y : Int))) :
    Calls Try.prog 56 #[.int .i64 (i : Int), .pointer (some ⟨bf, 0, none⟩), .pointer (some ⟨ba, 0, none⟩), .pointer (some ⟨bq, 0, none⟩)] w fun e w' => e = .returned (.bool (!lt (F (fk (a + i))) y)) ∧ Below w.heap.size w w' := by
 have HF := Aside0.mk hA
 have HY := Aside0.mk hy
 obtain ⟨k, hk⟩ : ∃ k, a + i = k := ⟨_, rfl⟩
 rw [hk] at hai ⊢
 have HKK := Aside0.mk hai
 have HK : Aside0 (fk k < 4294967296) := ⟨fk_word hai⟩
 have HFK : Aside0 (F (fk k) < 4294967296) := ⟨hF _ HK.out⟩
 have w1 : IntKind.i64.wrap ((a : Int) + (i : Int)) = (k : Int) := by rw [show IntKind.i64.wrap ((a : Int) + (i : Int)) = wrap64 ((a : Int) + (i : Int)) from i64_w _, w64 (by omega) (by omega)]; omega
 have w2 : IntKind.u32.wrap (k : Int) = (k : Int) := by rw [IntKind.wrap_u32]; omega
 have hn : ∀ w, (nilAhead 213 26 (.pointer (some ⟨g, 0, none⟩)) "At").run Try.prog w = .ok (some false) w := fun _ => by kernel_rfl
 clear hA hy hai hF hk
 go_enter Try.func56, Try.ntmps56
 go_wp2
 refine start_ (n := 14) (S := fun w' => w'.cell? ⟨bf, 0, none⟩ = some (.iface 26 (.pointer (some ⟨g, 0, none⟩))) ∧ w'.cell? ⟨ba, 0, none⟩ = some (.int .i64 (a : Int)) ∧ w'.cell? ⟨bq, 0, none⟩ = some (.int .u32 (y : Int))) (ds := []) #[ff_,ff_,ff_,ff_,ff_,ff_,ff_,ff_,ff_,ff_,ff_,ff_,ff_,ff_] (by kernel_rfl) rfl rfl ⟨cf, ca, cy⟩ (fun hHeld => ?_)
 refine pure_ (i := 2) (N := some 8) (v := ?_) (a' := ?_) #[ff_,ff_,tt_,ff_,ff_,ff_,ff_,ff_,ff_,ff_,ff_,ff_,ff_,ff_] rfl rfl (by kernel_rfl) (fun _ _ _ h => h) (Or.inl ⟨by rfl, ?_⟩) ?_ ?_
 rotate_left
 ·intro w'
  go_simp
  with_reducible rfl
 rotate_left
 ·simp only [Act.put, List.setIfInBounds_toArray, List.set_cons_zero, List.set_cons_succ, i64_w, i32_w]
  rfl
 refine take_ (i := 0) (N := some 6) (v := ?_) (a' := ?_) #[tt_,ff_,tt_,ff_,ff_,ff_,ff_,ff_,ff_,ff_,ff_,ff_,ff_,ff_] rfl rfl (by kernel_rfl) (fun _ _ _ h => h) (Or.inl ⟨by rfl, ?_⟩) hHeld ?_ ?_
 rotate_left
 ·rintro w' ⟨s0, s1, s2⟩
  go_simp
  with_reducible rfl
 rotate_left
 ·simp only [Act.put, List.setIfInBounds_toArray, List.set_cons_zero, List.set_cons_succ, i64_w, i32_w]
  rfl
 refine pure_ (i := 6) (N := some 12) (v := ?_) (a' := ?_) #[tt_,ff_,tt_,ff_,ff_,ff_,tt_,ff_,ff_,ff_,ff_,ff_,ff_,ff_] rfl rfl (by kernel_rfl) (fun _ _ _ h => h) (Or.inl ⟨by rfl, ?_⟩) ?_ ?_
 rotate_left
 ·intro w'
  go_simp
  with_reducible rfl
 rotate_left
 ·simp only [Act.put, List.setIfInBounds_toArray, List.set_cons_zero, List.set_cons_succ, i64_w, i32_w]
  rfl
 refine pure_ (i := 7) (N := some 13) (v := ?_) (a' := ?_) #[tt_,ff_,tt_,ff_,ff_,ff_,tt_,tt_,ff_,ff_,ff_,ff_,ff_,ff_] rfl rfl (by kernel_rfl) (fun _ _ _ h => h) (Or.inl ⟨by rfl, ?_⟩) ?_ ?_
 rotate_left
 ·intro w'
  go_simp
  with_reducible rfl
 rotate_left
 ·simp only [Act.put, List.setIfInBounds_toArray, List.set_cons_zero, List.set_cons_succ, i64_w, i32_w]
  rfl
 refine pure_ (i := 8) (N := some 14) (v := ?_) (a' := ?_) #[tt_,ff_,tt_,ff_,ff_,ff_,tt_,tt_,tt_,ff_,ff_,ff_,ff_,ff_] rfl rfl (by kernel_rfl) (fun _ _ _ h => h) (Or.inl ⟨by rfl, ?_⟩) ?_ ?_
 rotate_left
 ·intro w'
  go_simp
  with_reducible rfl
 rotate_left
 ·simp only [Act.put, List.setIfInBounds_toArray, List.set_cons_zero, List.set_cons_succ, i64_w, i32_w]
  rfl
 refine take_ (i := 1) (N := some 7) (v := ?_) (a' := ?_) #[tt_,tt_,tt_,ff_,ff_,ff_,tt_,tt_,tt_,ff_,ff_,ff_,ff_,ff_] rfl rfl (by kernel_rfl) (fun _ _ _ h => h) (Or.inl ⟨by rfl, ?_⟩) hHeld ?_ ?_
 rotate_left
 ·rintro w' ⟨s0, s1, s2⟩
  go_simp
  with_reducible rfl
 rotate_left
 ·simp only [Act.put, List.setIfInBounds_toArray, List.set_cons_zero, List.set_cons_succ, i64_w, i32_w]
  rfl
 refine pure_ (i := 3) (N := some 9) (v := ?_) (a' := ?_) #[tt_,tt_,tt_,tt_,ff_,ff_,tt_,tt_,tt_,ff_,ff_,ff_,ff_,ff_] rfl rfl (by kernel_rfl) (fun _ _ _ h => h) (Or.inl ⟨by rfl, ?_⟩) ?_ ?_
 rotate_left
 ·intro w'
  go_simp
  with_reducible rfl
 rotate_left
 ·simp only [Act.put, List.setIfInBounds_toArray, List.set_cons_zero, List.set_cons_succ, i64_w, i32_w]
  rfl
 refine pure_ (i := 4) (N := some 10) (v := ?_) (a' := ?_) #[tt_,tt_,tt_,tt_,tt_,ff_,tt_,tt_,tt_,ff_,ff_,ff_,ff_,ff_] rfl rfl (by kernel_rfl) (fun _ _ _ h => h) (Or.inl ⟨by rfl, ?_⟩) ?_ ?_
 rotate_left
 ·intro w'
  go_simp
  with_reducible rfl
 rotate_left
 ·simp only [Act.put, List.setIfInBounds_toArray, List.set_cons_zero, List.set_cons_succ, i64_w, i32_w]
  rfl
 refine take_ (i := 10) (N := some 16) (v := ?_) (a' := ?_) #[tt_,tt_,tt_,tt_,tt_,ff_,tt_,tt_,tt_,ff_,tt_,ff_,ff_,ff_] rfl rfl (by kernel_rfl) (fun _ _ _ h => h) (Or.inl ⟨by rfl, ?_⟩) hHeld ?_ ?_
 rotate_left
 ·rintro w' ⟨s0, s1, s2⟩
  go_simp
  with_reducible rfl
 rotate_left
 ·simp only [Act.put, List.setIfInBounds_toArray, List.set_cons_zero, List.set_cons_succ, i64_w, i32_w]
  rfl
 refine one_ (i := 5) (N := some 11) #[tt_,tt_,tt_,tt_,tt_,tt_,tt_,tt_,tt_,ff_,tt_,ff_,ff_,ff_] rfl rfl (by kernel_rfl) (by decide) (fun K hK => ?_)
 refine goes_ Try.func57 (by kernel_rfl) rfl #[.int .u32 (k : Int)] (by rfl) rfl rfl (by (try simp only [List.map_toArray, List.map_cons, List.map_nil]); rfl) ?_
 with_reducible refine (FromKey_calls k HKK.out _).mono ?_
 rintro e w1 ⟨rfl, hd⟩
 refine ⟨_, rfl, ?_⟩
 have D1 := Aside0.mk (below_step (below_drew (Below.refl _ w)) hd.below)
 clear hd
 refine hK.out _ _ ⟨pw_cell_below D1.out cf, pw_cell_below D1.out ca, pw_cell_below D1.out cy⟩ (fun hHeld => ?_)
 clear hK K
 refine norm_ (a' := ?_) ?_ ?_
 rotate_left
 ·show Act.put _ (some 11) _ = _
  simp only [Act.put, List.setIfInBounds_toArray, List.set_cons_zero, List.set_cons_succ, i64_w, i32_w]
  rfl
 refine one_ (i := 9) (N := some 15) #[tt_,tt_,tt_,tt_,tt_,tt_,tt_,tt_,tt_,tt_,tt_,ff_,ff_,ff_] rfl rfl (by kernel_rfl) (by decide) (fun K hK => ?_)
 refine goesM_ (f := 17) (.iface 26 (.pointer (some ⟨g, 0, none⟩))) #[.int .u32 ((fk k : Nat) : Int)] _ (inv_c g (fk k) _) (by rfl) rfl rfl (by rfl) (by (try simp only [List.map_toArray, List.map_cons, List.map_nil]); rfl) ?_
 refine (HF.out _ _ HK.out ?hb).mono ?_
 (case hb => exact D1.out)
 rintro e w2 ⟨rfl, hb⟩
 refine ⟨_, rfl, ?_⟩
 have D2 := Aside0.mk (below_step D1.out hb)
 clear hb
 refine hK.out _ _ ⟨pw_cell_below D2.out cf, pw_cell_below D2.out ca, pw_cell_below D2.out cy⟩ (fun hHeld => ?_)
 clear hK K
 refine norm_ (a' := ?_) ?_ ?_
 rotate_left
 ·show Act.put _ (some 15) _ = _
  simp only [Act.put, List.setIfInBounds_toArray, List.set_cons_zero, List.set_cons_succ, i64_w, i32_w]
  rfl
 refine one_ (i := 11) (N := some 17) #[tt_,tt_,tt_,tt_,tt_,tt_,tt_,tt_,tt_,tt_,tt_,tt_,ff_,ff_] rfl rfl (by kernel_rfl) (by decide) (fun K hK => ?_)
 refine goes_ Try.func45 (by kernel_rfl) rfl #[.int .u32 ((F (fk k) : Nat) : Int), .int .u32 (y : Int)] (by rfl) rfl rfl (by (try simp only [List.map_toArray, List.map_cons, List.map_nil]); rfl) ?_
 with_reducible refine (Less_calls _ _ HFK.out HY.out _).mono ?_
 rintro e w3 ⟨rfl, hw⟩
 refine ⟨_, rfl, ?_⟩
 rw [hw]
 clear hw w3
 refine hK.out _ _ ⟨pw_cell_below D2.out cf, pw_cell_below D2.out ca, pw_cell_below D2.out cy⟩ (fun hHeld => ?_)
 clear hK K
 refine norm_ (a' := ?_) ?_ ?_
 rotate_left
 ·show Act.put _ (some 17) _ = _
  simp only [Act.put, List.setIfInBounds_toArray, List.set_cons_zero, List.set_cons_succ, i64_w, i32_w]
  rfl
 refine pure_ (i := 12) (N := some 18) (v := ?_) (a' := ?_) #[tt_,tt_,tt_,tt_,tt_,tt_,tt_,tt_,tt_,tt_,tt_,tt_,tt_,ff_] rfl rfl (by kernel_rfl) (fun _ _ _ h => h) (Or.inl ⟨by rfl, ?_⟩) ?_ ?_
 rotate_left
 ·intro w'
  go_simp
  with_reducible rfl
 rotate_left
 ·simp only [Act.put, List.setIfInBounds_toArray, List.set_cons_zero, List.set_cons_succ, i64_w, i32_w]
  rfl
 refine pure_ (i := 13) (N := some 5) (v := ?_) (a' := ?_) #[tt_,tt_,tt_,tt_,tt_,tt_,tt_,tt_,tt_,tt_,tt_,tt_,tt_,tt_] rfl rfl (by kernel_rfl) (fun _ _ _ h => h) (Or.inl ⟨by rfl, ?_⟩) ?_ ?_
 rotate_left
 ·intro w'
  go_simp
  with_reducible rfl
 rotate_left
 ·simp only [Act.put, List.setIfInBounds_toArray, List.set_cons_zero, List.set_cons_succ, i64_w, i32_w]
  rfl
 refine done_ (by kernel_rfl) ?_
 go_wp2
 go_ret
 exact ⟨rfl, D2.out⟩
set_option maxHeartbeats 4000000 in
theorem closure56h_calls (bf ba bq g a y i : Nat) (F : Nat → Nat) (w : World) (hy : y < 4294967296) (hF : ∀ x, x < 4294967296 → F x < 4294967296) (hai : a + i < 4294967296)
    (hA : ∀ (W : World) (x : Nat), x < 4294967296 → Below w.heap.size w W → Calls Try.prog 22 #[.pointer (some ⟨g, 0, none⟩), .int .u32 (x : Int)] W fun e w' => e = .returned (.int .u32 ((F x : Nat) : Int)) ∧ Below W.heap.size W w')
    (cf : w.cell? ⟨bf, 0, none⟩ = some (.iface 48 (.pointer (some ⟨g, 0, none⟩)))) (ca : w.cell? ⟨ba, 0, none⟩ = some (.int .i64 (a : Int))) (cy : w.cell? ⟨bq, 0, none⟩ = some (.int .u32 (y : Int))) :
    Calls Try.prog 56 #[.int .i64 (i : Int), .pointer (some ⟨bf, 0, none⟩), .pointer (some ⟨ba, 0, none⟩), .pointer (some ⟨bq, 0, none⟩)] w fun e w' => e = .returned (.bool (!lt (F (fk (a + i))) y)) ∧ Below w.heap.size w w' := by
 have HF := Aside0.mk hA
 have HY := Aside0.mk hy
 obtain ⟨k, hk⟩ : ∃ k, a + i = k := ⟨_, rfl⟩
 rw [hk] at hai ⊢
 have HKK := Aside0.mk hai
 have HK : Aside0 (fk k < 4294967296) := ⟨fk_word hai⟩
 have HFK : Aside0 (F (fk k) < 4294967296) := ⟨hF _ HK.out⟩
 have w1 : IntKind.i64.wrap ((a : Int) + (i : Int)) = (k : Int) := by rw [show IntKind.i64.wrap ((a : Int) + (i : Int)) = wrap64 ((a : Int) + (i : Int)) from i64_w _, w64 (by omega) (by omega)]; omega
 have w2 : IntKind.u32.wrap (k : Int) = (k : Int) := by rw [IntKind.wrap_u32]; omega
 have hn : ∀ w, (nilAhead 213 48 (.pointer (some ⟨g, 0, none⟩)) "At").run Try.prog w = .ok (some false) w := fun _ => by kernel_rfl
 clear hA hy hai hF hk
 go_enter Try.func56, Try.ntmps56
 go_wp2
 refine start_ (n := 14) (S := fun w' => w'.cell? ⟨bf, 0, none⟩ = some (.iface 48 (.pointer (some ⟨g, 0, none⟩))) ∧ w'.cell? ⟨ba, 0, none⟩ = some (.int .i64 (a : Int)) ∧ w'.cell? ⟨bq, 0, none⟩ = some (.int .u32 (y : Int))) (ds := []) #[ff_,ff_,ff_,ff_,ff_,ff_,ff_,ff_,ff_,ff_,ff_,ff_,ff_,ff_] (by kernel_rfl) rfl rfl ⟨cf, ca, cy⟩ (fun hHeld => ?_)
 refine pure_ (i := 2) (N := some 8) (v := ?_) (a' := ?_) #[ff_,ff_,tt_,ff_,ff_,ff_,ff_,ff_,ff_,ff_,ff_,ff_,ff_,ff_] rfl rfl (by kernel_rfl) (fun _ _ _ h => h) (Or.inl ⟨by rfl, ?_⟩) ?_ ?_
 rotate_left
 ·intro w'
  go_simp
  with_reducible rfl
 rotate_left
 ·simp only [Act.put, List.setIfInBounds_toArray, List.set_cons_zero, List.set_cons_succ, i64_w, i32_w]
  rfl
 refine take_ (i := 0) (N := some 6) (v := ?_) (a' := ?_) #[tt_,ff_,tt_,ff_,ff_,ff_,ff_,ff_,ff_,ff_,ff_,ff_,ff_,ff_] rfl rfl (by kernel_rfl) (fun _ _ _ h => h) (Or.inl ⟨by rfl, ?_⟩) hHeld ?_ ?_
 rotate_left
 ·rintro w' ⟨s0, s1, s2⟩
  go_simp
  with_reducible rfl
 rotate_left
 ·simp only [Act.put, List.setIfInBounds_toArray, List.set_cons_zero, List.set_cons_succ, i64_w, i32_w]
  rfl
 refine pure_ (i := 6) (N := some 12) (v := ?_) (a' := ?_) #[tt_,ff_,tt_,ff_,ff_,ff_,tt_,ff_,ff_,ff_,ff_,ff_,ff_,ff_] rfl rfl (by kernel_rfl) (fun _ _ _ h => h) (Or.inl ⟨by rfl, ?_⟩) ?_ ?_
 rotate_left
 ·intro w'
  go_simp
  with_reducible rfl
 rotate_left
 ·simp only [Act.put, List.setIfInBounds_toArray, List.set_cons_zero, List.set_cons_succ, i64_w, i32_w]
  rfl
 refine pure_ (i := 7) (N := some 13) (v := ?_) (a' := ?_) #[tt_,ff_,tt_,ff_,ff_,ff_,tt_,tt_,ff_,ff_,ff_,ff_,ff_,ff_] rfl rfl (by kernel_rfl) (fun _ _ _ h => h) (Or.inl ⟨by rfl, ?_⟩) ?_ ?_
 rotate_left
 ·intro w'
  go_simp
  with_reducible rfl
 rotate_left
 ·simp only [Act.put, List.setIfInBounds_toArray, List.set_cons_zero, List.set_cons_succ, i64_w, i32_w]
  rfl
 refine pure_ (i := 8) (N := some 14) (v := ?_) (a' := ?_) #[tt_,ff_,tt_,ff_,ff_,ff_,tt_,tt_,tt_,ff_,ff_,ff_,ff_,ff_] rfl rfl (by kernel_rfl) (fun _ _ _ h => h) (Or.inl ⟨by rfl, ?_⟩) ?_ ?_
 rotate_left
 ·intro w'
  go_simp
  with_reducible rfl
 rotate_left
 ·simp only [Act.put, List.setIfInBounds_toArray, List.set_cons_zero, List.set_cons_succ, i64_w, i32_w]
  rfl
 refine take_ (i := 1) (N := some 7) (v := ?_) (a' := ?_) #[tt_,tt_,tt_,ff_,ff_,ff_,tt_,tt_,tt_,ff_,ff_,ff_,ff_,ff_] rfl rfl (by kernel_rfl) (fun _ _ _ h => h) (Or.inl ⟨by rfl, ?_⟩) hHeld ?_ ?_
 rotate_left
 ·rintro w' ⟨s0, s1, s2⟩
  go_simp
  with_reducible rfl
 rotate_left
 ·simp only [Act.put, List.setIfInBounds_toArray, List.set_cons_zero, List.set_cons_succ, i64_w, i32_w]
  rfl
 refine pure_ (i := 3) (N := some 9) (v := ?_) (a' := ?_) #[tt_,tt_,tt_,tt_,ff_,ff_,tt_,tt_,tt_,ff_,ff_,ff_,ff_,ff_] rfl rfl (by kernel_rfl) (fun _ _ _ h => h) (Or.inl ⟨by rfl, ?_⟩) ?_ ?_
 rotate_left
 ·intro w'
  go_simp
  with_reducible rfl
 rotate_left
 ·simp only [Act.put, List.setIfInBounds_toArray, List.set_cons_zero, List.set_cons_succ, i64_w, i32_w]
  rfl
 refine pure_ (i := 4) (N := some 10) (v := ?_) (a' := ?_) #[tt_,tt_,tt_,tt_,tt_,ff_,tt_,tt_,tt_,ff_,ff_,ff_,ff_,ff_] rfl rfl (by kernel_rfl) (fun _ _ _ h => h) (Or.inl ⟨by rfl, ?_⟩) ?_ ?_
 rotate_left
 ·intro w'
  go_simp
  with_reducible rfl
 rotate_left
 ·simp only [Act.put, List.setIfInBounds_toArray, List.set_cons_zero, List.set_cons_succ, i64_w, i32_w]
  rfl
 refine take_ (i := 10) (N := some 16) (v := ?_) (a' := ?_) #[tt_,tt_,tt_,tt_,tt_,ff_,tt_,tt_,tt_,ff_,tt_,ff_,ff_,ff_] rfl rfl (by kernel_rfl) (fun _ _ _ h => h) (Or.inl ⟨by rfl, ?_⟩) hHeld ?_ ?_
 rotate_left
 ·rintro w' ⟨s0, s1, s2⟩
  go_simp
  with_reducible rfl
 rotate_left
 ·simp only [Act.put, List.setIfInBounds_toArray, List.set_cons_zero, List.set_cons_succ, i64_w, i32_w]
  rfl
 refine one_ (i := 5) (N := some 11) #[tt_,tt_,tt_,tt_,tt_,tt_,tt_,tt_,tt_,ff_,tt_,ff_,ff_,ff_] rfl rfl (by kernel_rfl) (by decide) (fun K hK => ?_)
 refine goes_ Try.func57 (by kernel_rfl) rfl #[.int .u32 (k : Int)] (by rfl) rfl rfl (by (try simp only [List.map_toArray, List.map_cons, List.map_nil]); rfl) ?_
 with_reducible refine (FromKey_calls k HKK.out _).mono ?_
 rintro e w1 ⟨rfl, hd⟩
 refine ⟨_, rfl, ?_⟩
 have D1 := Aside0.mk (below_step (below_drew (Below.refl _ w)) hd.below)
 clear hd
 refine hK.out _ _ ⟨pw_cell_below D1.out cf, pw_cell_below D1.out ca, pw_cell_below D1.out cy⟩ (fun hHeld => ?_)
 clear hK K
 refine norm_ (a' := ?_) ?_ ?_
 rotate_left
 ·show Act.put _ (some 11) _ = _
  simp only [Act.put, List.setIfInBounds_toArray, List.set_cons_zero, List.set_cons_succ, i64_w, i32_w]
  rfl
 refine one_ (i := 9) (N := some 15) #[tt_,tt_,tt_,tt_,tt_,tt_,tt_,tt_,tt_,tt_,tt_,ff_,ff_,ff_] rfl rfl (by kernel_rfl) (by decide) (fun K hK => ?_)
 refine goesM_ (f := 22) (.iface 48 (.pointer (some ⟨g, 0, none⟩))) #[.int .u32 ((fk k : Nat) : Int)] _ (inv_h g (fk k) _) (by rfl) rfl rfl (by rfl) (by (try simp only [List.map_toArray, List.map_cons, List.map_nil]); rfl) ?_
 refine (HF.out _ _ HK.out ?hb).mono ?_
 (case hb => exact D1.out)
 rintro e w2 ⟨rfl, hb⟩
 refine ⟨_, rfl, ?_⟩
 have D2 := Aside0.mk (below_step D1.out hb)
 clear hb
 refine hK.out _ _ ⟨pw_cell_below D2.out cf, pw_cell_below D2.out ca, pw_cell_below D2.out cy⟩ (fun hHeld => ?_)
 clear hK K
 refine norm_ (a' := ?_) ?_ ?_
 rotate_left
 ·show Act.put _ (some 15) _ = _
  simp only [Act.put, List.setIfInBounds_toArray, List.set_cons_zero, List.set_cons_succ, i64_w, i32_w]
  rfl
 refine one_ (i := 11) (N := some 17) #[tt_,tt_,tt_,tt_,tt_,tt_,tt_,tt_,tt_,tt_,tt_,tt_,ff_,ff_] rfl rfl (by kernel_rfl) (by decide) (fun K hK => ?_)
 refine goes_ Try.func45 (by kernel_rfl) rfl #[.int .u32 ((F (fk k) : Nat) : Int), .int .u32 (y : Int)] (by rfl) rfl rfl (by (try simp only [List.map_toArray, List.map_cons, List.map_nil]); rfl) ?_
 with_reducible refine (Less_calls _ _ HFK.out HY.out _).mono ?_
 rintro e w3 ⟨rfl, hw⟩
 refine ⟨_, rfl, ?_⟩
 rw [hw]
 clear hw w3
 refine hK.out _ _ ⟨pw_cell_below D2.out cf, pw_cell_below D2.out ca, pw_cell_below D2.out cy⟩ (fun hHeld => ?_)
 clear hK K
 refine norm_ (a' := ?_) ?_ ?_
 rotate_left
 ·show Act.put _ (some 17) _ = _
  simp only [Act.put, List.setIfInBounds_toArray, List.set_cons_zero, List.set_cons_succ, i64_w, i32_w]
  rfl
 refine pure_ (i := 12) (N := some 18) (v := ?_) (a' := ?_) #[tt_,tt_,tt_,tt_,tt_,tt_,tt_,tt_,tt_,tt_,tt_,tt_,tt_,ff_] rfl rfl (by kernel_rfl) (fun _ _ _ h => h) (Or.inl ⟨by rfl, ?_⟩) ?_ ?_
 rotate_left
 ·intro w'
  go_simp
  with_reducible rfl
 rotate_left
 ·simp only [Act.put, List.setIfInBounds_toArray, List.set_cons_zero, List.set_cons_succ, i64_w, i32_w]
  rfl
 refine pure_ (i := 13) (N := some 5) (v := ?_) (a' := ?_) #[tt_,tt_,tt_,tt_,tt_,tt_,tt_,tt_,tt_,tt_,tt_,tt_,tt_,tt_] rfl rfl (by kernel_rfl) (fun _ _ _ h => h) (Or.inl ⟨by rfl, ?_⟩) ?_ ?_
 rotate_left
 ·intro w'
  go_simp
  with_reducible rfl
 rotate_left
 ·simp only [Act.put, List.setIfInBounds_toArray, List.set_cons_zero, List.set_cons_succ, i64_w, i32_w]
  rfl
 refine done_ (by kernel_rfl) ?_
 go_wp2
 go_ret
 exact ⟨rfl, D2.out⟩
end Go.Proofs.Ytkicfaboibfbpaa.A
end
