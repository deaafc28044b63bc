import Derived.Test.YtjlciehcddanpaaU1
import Derived.Deep.LoopGhost
import Derived.Laws.Externs
import Derived.Laws.FloatArith
import Derived.Shelf.Abstract
import Derived.Shelf.Lay
section
set_option linter.unusedVariables false
set_option linter.unusedSimpArgs false
set_option linter.unusedSectionVars false
namespace Go.Proofs.Ytjlciehcddanpaa.A
open Go.RowKit Go.Shelf Go.Proofs.YtjlciehcddanpaaW.PrintWords Go.Proofs.YtjlciehcddanpaaW.PrintLast Go.Proofs.YtjlciehcddanpaaW.PrintMore Go.Proofs.Ytjlciehcddanpaa.PMixNames


theorem wraps_u32 (n : Int) (h₀ : 0 ≤ n) (h₁ : n < 2 ^ 32) : IntKind.u32.wrap n = n := by rw [IntKind.wrap_u32]; omega
theorem u32_and255 {x : Int} (h₀ : 0 ≤ x) (h₁ : x < 4294967296) : bits .and .u32 x 255 = x % 256 := bits_mask .u32 32 (by decide) wraps_u32 8 (by decide) x h₀ h₁
theorem u32_and23 {x : Int} (h₀ : 0 ≤ x) (h₁ : x < 4294967296) : bits .and .u32 x 8388607 = x % 8388608 := bits_mask .u32 32 (by decide) wraps_u32 23 (by decide) x h₀ h₁
theorem w64 {n : Int} (h1 : -9223372036854775808 ≤ n) (h2 : n < 9223372036854775808) : wrap64 n = n := by
 simp only [wrap64, IntKind.wrap_i64]; omega
/-- what bits.Made tells -/
def mk (s : Nat) : Nat := if isnan s = true then made else s
theorem Class_f (s : Nat) (h : s < 4294967296) : ∃ r : Int, bits_Class.f (s : Int) = some r ∧ (r == 1) = isnan s := by
 have e1 : bits_split.f (s : Int) = some (decide ((s : Int) ≥ 2147483648), (s : Int) / 8388608 % 256, (s : Int) % 8388608) := by
  unfold bits_split.f
  rw [u32_and255 (by omega) (by omega), u32_and23 (by omega) (by omega), w64 (by omega) (by omega), w64 (by omega) (by omega)]
 unfold bits_Class.f
 rw [e1]
 simp only [Option.bind_some]
 unfold isnan
 have a1 : ((s : Int) / 8388608 % 256 = 255) ↔ (s / 2 ^ 23 % 256 = 255) := by
  rw [show (2 : Nat) ^ 23 = 8388608 by decide]; omega
 have a2 : ((s : Int) % 8388608 = 0) ↔ (s % 2 ^ 23 = 0) := by
  rw [show (2 : Nat) ^ 23 = 8388608 by decide]; omega
 by_cases c1 : s / 2 ^ 23 % 256 = 255
 ·have b1 := a1.mpr c1
  have c0 : ((s : Int) / 8388608 % 256 == 0) = false := by rw [b1]; decide
  have c5 : ((s : Int) / 8388608 % 256 == 255) = true := by rw [b1]; decide
  rw [c0, c5]
  simp only [Bool.false_and, Bool.true_and, Bool.false_eq_true, if_false, b1, if_true]
  by_cases c2 : s % 2 ^ 23 = 0
  ·have b2 := a2.mpr c2
   rw [b2]
   exact ⟨2, by simp, by simp [c2]⟩
  ·have b2 : ((s : Int) % 8388608 == 0) = false := by rw [beq_eq_false_iff_ne]; intro h; exact c2 (a2.mp h)
   rw [b2]
   exact ⟨1, by simp, by simp [c1, c2]⟩
 ·have b1 : ¬ ((s : Int) / 8388608 % 256 = 255) := fun h => c1 (a1.mp h)
  have c5 : ((s : Int) / 8388608 % 256 == 255) = false := by rw [beq_eq_false_iff_ne]; exact b1
  rw [c5]
  simp only [Bool.false_and, Bool.false_eq_true, if_false, b1]
  have e : (decide (s / 2 ^ 23 % 256 = 255) && decide (s % 2 ^ 23 ≠ 0)) = false := by rw [decide_eq_false c1]; rfl
  rw [e]
  split
  ·exact ⟨5, rfl, rfl⟩
  ·split
   ·exact ⟨4, rfl, rfl⟩
   ·exact ⟨3, rfl, rfl⟩
theorem Made_f (s : Nat) (h : s < 4294967296) : bits_Made.f (s : Int) = some ((mk s : Nat) : Int) := by
 obtain ⟨r, e1, e2⟩ := Class_f s h
 have e3 : bits_IsNaN.f (s : Int) = some (isnan s) := by
  unfold bits_IsNaN.f
  rw [e1, ← e2]
  rfl
 unfold bits_Made.f mk
 rw [e3]
 simp only [Option.bind_some]
 split <;> rfl
theorem Made_calls (s : Nat) (w : World) (h : s < 4294967296) : Calls Try.prog 67 #[.int .u32 (s : Int)] w fun e w' => e = .returned (.int .u32 ((mk s : Nat) : Int)) ∧ Below w.heap.size w w' :=
 bits_Made.calls (s : Int) _ w (Made_f s h)
/-- the two functions of the library that the model stands in for -/
theorem run_from (s : Nat) (w : World) : (callFunc 69 #[.int .u32 (s : Int)]).run Try.prog w = .ok (.value (.float .f32 s)) w := by
 rw [run_callFunc_extern Try.func69 (by kernel_rfl) (by kernel_rfl) (by kernel_rfl) (e := Extern.MathFloatBits.float32frombits) (by kernel_rfl)]
 rfl
theorem run_bits (s : Nat) (w : World) : (callFunc 68 #[.float .f32 s]).run Try.prog w = .ok (.value (.int .u32 (s : Int))) w := by
 rw [run_callFunc_extern Try.func68 (by kernel_rfl) (by kernel_rfl) (by kernel_rfl) (e := Extern.MathFloatBits.float32bits) (by kernel_rfl)]
 rfl
/-- a double's word: of a number or an infinity that very one, of a NaN any -/
def Dv (v : Nat) (o : Option Nat) : Prop := match o with
 | some x => v = x
 | none => ∃ a t, Ieee.double.read v = .nan a t
theorem nan_d (t : Nat) : ∃ a f, Ieee.double.read ((t % 2) * 2 ^ 63 + 0x7ff0000000000000 + 1 + (t / 2) % (2 ^ 52 - 1)) = .nan a f := by
 obtain ⟨x, hx⟩ : ∃ x, (t / 2) % (2 ^ 52 - 1) = x := ⟨_, rfl⟩
 have hlt : x < 2 ^ 52 - 1 := by rw [← hx]; exact Nat.mod_lt _ (by decide)
 rw [hx]
 have h1 : Ieee.double.infRung < 0x7ff0000000000000 + 1 + x := by
  have : Ieee.double.infRung = 0x7ff0000000000000 := by decide
  omega
 have h2 : 0x7ff0000000000000 + 1 + x < Ieee.double.signWeight := by
  have : Ieee.double.signWeight = 2 ^ 63 := by decide
  rw [this]
  have h3 : x < 4503599627370495 := hlt
  omega
 have h3 : (t % 2) * 2 ^ 63 + 0x7ff0000000000000 + 1 + x = Ieee.double.word (t % 2 == 1) (0x7ff0000000000000 + 1 + x) := by
  unfold Ieee.Format.word
  have : Ieee.double.signWeight = 2 ^ 63 := by decide
  rw [this]
  rcases Nat.mod_two_eq_zero_or_one t with h | h
  ·rw [h]; simp
  ·rw [h]; simp; omega
 rw [h3]
 exact ⟨_, _, read_nan Ieee.double bi_d _ h1 h2⟩
theorem nan_s (t : Nat) : isnan ((t % 2) * 2 ^ 31 + 0x7f800000 + 1 + (t / 2) % (2 ^ 23 - 1)) = true ∧ (t % 2) * 2 ^ 31 + 0x7f800000 + 1 + (t / 2) % (2 ^ 23 - 1) < 4294967296 := by
 obtain ⟨x, hx⟩ : ∃ x, (t / 2) % (2 ^ 23 - 1) = x := ⟨_, rfl⟩
 have hlt : x < 2 ^ 23 - 1 := by rw [← hx]; exact Nat.mod_lt _ (by decide)
 have h31 : (2 : Nat) ^ 31 = 2147483648 := by decide
 have h23 : (2 : Nat) ^ 23 = 8388608 := by decide
 rw [h23] at hlt
 rw [hx]
 unfold isnan
 rw [h31, h23]
 simp only [Bool.and_eq_true, decide_eq_true_eq]
 rcases Nat.mod_two_eq_zero_or_one t with h | h
 ·rw [h]; omega
 ·rw [h]; omega

/-- a way of reckoning that a NaN goes through -/
theorem nan_left (op : BinOp) (x y : Nat) (a : Bool) (f : Nat) (h : Ieee.double.read x = .nan a f) : floatBits op .f64 x y = none := by
 cases op <;> first
  | rfl
  | (change Ieee.double.add x y = none; unfold Ieee.Format.add; rw [h]; rfl)
  | (change Ieee.double.sub x y = none; unfold Ieee.Format.sub; rw [h]; rfl)
  | (change Ieee.double.mul x y = none; unfold Ieee.Format.mul; rw [h]; rfl)
  | (change Ieee.double.div x y = none; unfold Ieee.Format.div; rw [h]; rfl)
theorem nan_right (op : BinOp) (x y : Nat) (a : Bool) (f : Nat) (h : Ieee.double.read y = .nan a f) : floatBits op .f64 x y = none := by
 cases op <;> first
  | rfl
  | (change Ieee.double.add x y = none; unfold Ieee.Format.add; rw [h]; cases Ieee.double.read x <;> rfl)
  | (change Ieee.double.sub x y = none; unfold Ieee.Format.sub; rw [h]; cases Ieee.double.read x <;> rfl)
  | (change Ieee.double.mul x y = none; unfold Ieee.Format.mul; rw [h]; cases Ieee.double.read x <;> rfl)
  | (change Ieee.double.div x y = none; unfold Ieee.Format.div; rw [h]; cases Ieee.double.read x <;> rfl)
theorem Dv_op (op : BinOp) {v1 v2 : Nat} {o1 o2 : Option Nat} (h1 : Dv v1 o1) (h2 : Dv v2 o2) : floatBits op .f64 v1 v2 = o1.bind fun x => o2.bind fun y => floatBits op .f64 x y := by
 cases o1 with
 | none =>
  obtain ⟨a, f, h⟩ := h1
  rw [nan_left op v1 v2 a f h]; rfl
 | some x =>
  obtain rfl : v1 = x := h1
  cases o2 with
  | none =>
   obtain ⟨a, f, h⟩ := h2
   rw [nan_right op v1 v2 a f h]; rfl
  | some y =>
   obtain rfl : v2 = y := h2
   rfl
theorem step_op (op : BinOp) (hop : op = .add ∨ op = .sub ∨ op = .mul ∨ op = .quo) (t : TypeId) {v1 v2 : Nat} {o1 o2 : Option Nat} (h1 : Dv v1 o1) (h2 : Dv v2 o2) (w : World) :
    ∃ v m, (binOp op t (.float .f64 v1) (.float .f64 v2)).run Try.prog w = .ok (.float .f64 v) (w.drewN m) ∧ Dv v (o1.bind fun x => o2.bind fun y => floatBits op .f64 x y) := by
 rw [← Dv_op op h1 h2]
 cases hb : floatBits op .f64 v1 v2 with
 | some r => exact ⟨r, 0, run_float_arith w op t .f64 v1 v2 r hb, rfl⟩
 | none =>
  refine ⟨_, 1, ?_, nan_d (w.tape w.drawn (.nanBits .f64 v1 v2))⟩
  unfold floatBits at hb
  rcases hop with rfl | rfl | rfl | rfl
  ·simp only at hb
   simp [binOp, Op.floatArith, hb, Question.forced, Question.cut, World.drew_is_drewN]
  ·simp only at hb
   simp [binOp, Op.floatArith, hb, Question.forced, Question.cut, World.drew_is_drewN]
  ·simp only at hb
   simp [binOp, Op.floatArith, hb, Question.forced, Question.cut, World.drew_is_drewN]
  ·simp only at hb
   simp [binOp, Op.floatArith, hb, Question.forced, Question.cut, World.drew_is_drewN]
theorem step_wv (s : Nat) (hs : s < 4294967296) (w : World) :
    ∃ v m, (convert 96 66 (.float .f32 s)).run Try.prog w = .ok (.float .f64 v) (w.drewN m) ∧ Dv v (wv s) := by
 cases hb : wv s with
 | some r => exact ⟨r, 0, run_convert_float_float w 96 66 .f32 .f64 s r (by rw [Try.underlying96]; rfl) Try.underlying66 hb, rfl⟩
 | none =>
  refine ⟨_, 1, ?_, nan_d (w.tape w.drawn (.nanConv .f64 s))⟩
  obtain ⟨a, r, hr, rfl⟩ := word_of Ieee.single (x := s) hs
  have h : Ieee.single.infRung < r := by
   rcases Nat.lt_trichotomy r Ieee.single.infRung with h | h | h
   ·unfold wv at hb; rw [(cvt_fin a h).1] at hb; cases hb
   ·subst h; unfold wv at hb; rw [cvt_inf] at hb; cases hb
   ·exact h
  have e : FloatKind.decode .f32 (Ieee.single.word a r) = .nan a (r - Ieee.single.infRung) := read_nan Ieee.single bi_s a h hr
  simp [convert, run_underlying Try.underlying96, run_underlying Try.underlying66, Conv.floatToFloat, e, Question.forced, Question.cut, World.drew_is_drewN]
theorem step_back {v : Nat} {o : Option Nat} (h : Dv v o) (ho : ∀ q, o = some q → ∃ r, floatToFloatBits .f64 q .f32 = some r) (w : World) :
    ∃ u m, (convert 66 96 (.float .f64 v)).run Try.prog w = .ok (.float .f32 u) (w.drewN m) ∧ (o = none → isnan u = true ∧ u < 4294967296) ∧ (∀ q, o = some q → floatToFloatBits .f64 q .f32 = some u) := by
 cases o with
 | some q =>
  obtain rfl : v = q := h
  obtain ⟨r, hr⟩ := ho v rfl
  exact ⟨r, 0, run_convert_float_float w 66 96 .f64 .f32 v r (by rw [Try.underlying66]; rfl) Try.underlying96 hr, (fun e => by cases e), fun q e => by cases e; exact hr⟩
 | none =>
  obtain ⟨a, t, h⟩ := h
  refine ⟨_, 1, ?_, fun _ => nan_s (w.tape w.drawn (.nanConv .f32 v)), fun q e => by cases e⟩
  have e : FloatKind.decode .f64 v = .nan a t := h
  simp [convert, run_underlying Try.underlying96, run_underlying Try.underlying66, Conv.floatToFloat, e, Question.forced, Question.cut, World.drew_is_drewN]
section
variable {a b : Nat} (ha : a < 4294967296) (hb : b < 4294967296) (na : isnan a = false) (nb : isnan b = false)
include ha hb na nb
theorem ord_nn : FloatKind.f32.format.order a b = some (compare (pz a) (pz b)) := by
 have e : FloatKind.f32.format.order a b = Ieee.single.order a b := rfl
 rw [e, ord_s ha hb, if_neg (by rw [na, nb]; decide)]
end
theorem neq_f {a : Nat} (ha : a < 4294967296) (na : isnan a = false) : (FloatKind.f32.format.order a a != some .eq) = false ∧ (FloatKind.f32.format.order a a = some .eq) = True ∧ (FloatKind.f32.format.order a a == some .eq) = true := by
 rw [ord_nn ha ha na na, cmp_if, if_neg (by omega), if_pos rfl]; exact ⟨rfl, eq_true rfl, rfl⟩
theorem ord_nan {a b : Nat} (ha : a < 4294967296) (hb : b < 4294967296) (h : isnan a = true ∨ isnan b = true) : FloatKind.f32.format.order a b = none := by
 have e : FloatKind.f32.format.order a b = Ieee.single.order a b := rfl
 rw [e, ord_s ha hb, if_pos h]
theorem step_op32 (op : BinOp) (hop : op = .mul ∨ op = .quo) (t : TypeId) (a b : Nat) (w : World) :
    ∃ v m, (binOp op t (.float .f32 a) (.float .f32 b)).run Try.prog w = .ok (.float .f32 v) (w.drewN m) ∧ (∀ r, floatBits op .f32 a b = some r → v = r) ∧ (floatBits op .f32 a b = none → isnan v = true ∧ v < 4294967296) := by
 cases hb : floatBits op .f32 a b with
 | some r => exact ⟨r, 0, run_float_arith w op t .f32 a b r hb, (fun q e => by cases e; rfl), (fun e => by cases e)⟩
 | none =>
  refine ⟨_, 1, ?_, (fun q e => by cases e), (fun _ => nan_s (w.tape w.drawn (.nanBits .f32 a b)))⟩
  unfold floatBits at hb
  rcases hop with rfl | rfl
  ·simp only at hb
   simp [binOp, Op.floatArith, hb, Question.forced, Question.cut, World.drew_is_drewN]
  ·simp only at hb
   simp [binOp, Op.floatArith, hb, Question.forced, Question.cut, World.drew_is_drewN]
end Go.Proofs.Ytjlciehcddanpaa.A
end
section
set_option linter.unusedVariables false
set_option linter.unusedSimpArgs false
set_option linter.unusedSectionVars false
namespace Go.Proofs.Ytjlciehcddanpaa.A
open Go.RowKit Go.Shelf Go.Proofs.YtjlciehcddanpaaW.PrintWords Go.Proofs.YtjlciehcddanpaaW.PrintLast Go.Proofs.YtjlciehcddanpaaW.PrintMore Go.Proofs.Ytjlciehcddanpaa.PMixNames

/-- a way of reckoning on doubles, NaNs aside -/
def dop (op : BinOp) (a b : Option Nat) : Option Nat := a.bind fun x => b.bind fun y => floatBits op .f64 x y
def d1 : Option Nat := some 4607182418800017408
/-- what a double is told as -/
def tl (o : Option Nat) : Nat := match o with
 | none => made
 | some q => match floatToFloatBits .f64 q .f32 with
  | some r => mk r
  | none => 0
/-- no number too great for a sample -/
def Nov (o : Option Nat) : Prop := ∀ q, o = some q → ∃ r, floatToFloatBits .f64 q .f32 = some r ∧ r < 4294967296
/-- what a float32 operation is told as -/
def nr (o : Option Nat) : Nat := match o with
 | none => made
 | some r => mk r
theorem value_calls (s : Nat) (hs : s < 4294967296) (w : World) : Calls Try.prog 36 #[.int .u32 (s : Int)] w fun e w' => ∃ v, e = .returned (.float .f64 v) ∧ Dv v (wv s) ∧ Drawn0 w w' := by
 have hfrom := fun w => run_from s w
 obtain ⟨v, m, hc, hv⟩ := step_wv s hs w
 have HV := Aside0.mk hv
 clear hv hs
 go_enter Try.func36, Try.ntmps36
 go_wp2_with (first | ((with_reducible refine gate_dst (N := 4) rfl ?_); refine Kd.event_run rfl (v := .float .f32 s) (w1 := w) ?hr ?_; (case hr => first | (go_simp; done) | (go_simp; rfl))) | ((with_reducible refine gate_dst (N := 5) rfl ?_); refine Kd.event_run rfl (v := .float .f64 v) (w1 := w.drewN m) ?hr ?_; (case hr => first | (go_simp; done) | (go_simp; rfl) | exact hc)))
 go_ret
 exact ⟨v, rfl, HV.out, ⟨⟨m, rfl⟩⟩⟩
theorem told_calls (v : Nat) (o : Option Nat) (h : Dv v o) (hn : Nov o) (w : World) : Calls Try.prog 35 #[.float .f64 v] w fun e w' => e = .returned (.int .u32 ((tl o : Nat) : Int)) ∧ Below w.heap.size w w' := by
 obtain ⟨u, m, hc, h1, h2⟩ := step_back h (fun q hq => by obtain ⟨r, hr, _⟩ := hn q hq; exact ⟨r, hr⟩) w
 have hu : u < 4294967296 := by
  cases o with
  | none => exact (h1 rfl).2
  | some q =>
   obtain ⟨r, hr, hl⟩ := hn q rfl
   have := h2 q rfl
   rw [hr] at this
   injection this with this
   omega
 have e : tl o = mk u := by
  cases o with
  | none => unfold tl mk; rw [if_pos (h1 rfl).1]
  | some q => simp only [tl, h2 q rfl]
 rw [e]
 have hb := run_bits u (w.drewN m)
 have HU := Aside0.mk hu
 clear h hn h1 h2 hu e
 go_enter Try.func35, Try.ntmps35
 go_wp2_with (first | ((with_reducible refine gate_dst (N := 4) rfl ?_); refine Kd.event_run rfl (v := .float .f32 u) (w1 := w.drewN m) ?hr ?_; (case hr => first | (go_simp; done) | (go_simp; rfl) | exact hc)) | ((with_reducible refine gate_dst (N := 5) rfl ?_); refine Kd.event_run rfl (v := .int .u32 (u : Int)) (w1 := w.drewN m) ?hr ?_; (case hr => first | (go_simp; done) | (go_simp; rfl) | exact hb)) | (go_at_call 67; refine (Made_calls u _ HU.out).mono ?_; rintro e w2 ⟨rfl, hb⟩; have B2 := Aside0.mk hb; clear hb))
 go_ret
 exact ⟨rfl, below_step (show Below w.heap.size w (w.drewN m) from pw_below_drewN (Below.refl _ _) m) B2.out⟩
def wy1 (o1 o2 o3 o4 : Option Nat) : Option Nat := (dop .add o1 (dop .mul o3 (dop .sub d1 o2)))
theorem wy1_calls (v1 v2 v3 v4 : Nat) (o1 o2 o3 o4 : Option Nat) (h1 : Dv v1 o1) (h2 : Dv v2 o2) (h3 : Dv v3 o3) (h4 : Dv v4 o4) (w : World) : Calls Try.prog 87 #[.float .f64 v1, .float .f64 v2, .float .f64 v3, .float .f64 v4] w fun e w' => ∃ v, e = .returned (.float .f64 v) ∧ Dv v (wy1 o1 o2 o3 o4) ∧ Drawn0 w w' := by
 obtain ⟨x12, m12, r12, D12⟩ := step_op .sub (.inr (.inl rfl)) 66 (show Dv 4607182418800017408 d1 from rfl) h2 w
 obtain ⟨x13, m13, r13, D13⟩ := step_op .mul (.inr (.inr (.inl rfl))) 66 h3 D12 (w.drewN m12)
 obtain ⟨x14, m14, r14, D14⟩ := step_op .add (.inl rfl) 66 h1 D13 (w.drewN (m12 + m13))
 have DL := Aside0.mk D14
 clear D12 D13 D14 h1 h2 h3 h4
 go_enter Try.func87, Try.ntmps87
 go_wp2_with (first | ((with_reducible refine gate_dst (N := 12) rfl ?_); refine Kd.event_run rfl (v := .float .f64 x12) (w1 := (w.drewN m12)) ?hr ?_; (case hr => first | (go_simp; done) | (go_simp; rfl) | exact r12)) | ((with_reducible refine gate_dst (N := 13) rfl ?_); refine Kd.event_run rfl (v := .float .f64 x13) (w1 := (w.drewN (m12 + m13))) ?hr ?_; (case hr => first | (go_simp; done) | (go_simp; rfl) | exact r13)) | ((with_reducible refine gate_dst (N := 14) rfl ?_); refine Kd.event_run rfl (v := .float .f64 x14) (w1 := (w.drewN (m12 + m13 + m14))) ?hr ?_; (case hr => first | (go_simp; done) | (go_simp; rfl) | exact r14)))
 go_ret
 exact ⟨x14, rfl, DL.out, ⟨⟨m12 + m13 + m14, rfl⟩⟩⟩
def wy2 (o1 o2 o3 o4 : Option Nat) : Option Nat := (dop .mul o1 o4)
theorem wy2_calls (v1 v2 v3 v4 : Nat) (o1 o2 o3 o4 : Option Nat) (h1 : Dv v1 o1) (h2 : Dv v2 o2) (h3 : Dv v3 o3) (h4 : Dv v4 o4) (w : World) : Calls Try.prog 88 #[.float .f64 v1, .float .f64 v2, .float .f64 v3, .float .f64 v4] w fun e w' => ∃ v, e = .returned (.float .f64 v) ∧ Dv v (wy2 o1 o2 o3 o4) ∧ Drawn0 w w' := by
 obtain ⟨x11, m11, r11, D11⟩ := step_op .mul (.inr (.inr (.inl rfl))) 66 h1 h4 w
 have DL := Aside0.mk D11
 clear D11 h1 h2 h3 h4
 go_enter Try.func88, Try.ntmps88
 go_wp2_with (first | ((with_reducible refine gate_dst (N := 11) rfl ?_); refine Kd.event_run rfl (v := .float .f64 x11) (w1 := (w.drewN m11)) ?hr ?_; (case hr => first | (go_simp; done) | (go_simp; rfl) | exact r11)))
 go_ret
 exact ⟨x11, rfl, DL.out, ⟨⟨m11, rfl⟩⟩⟩
def wy3 (o1 o2 o3 o4 : Option Nat) : Option Nat := (dop .mul o1 (dop .sub d1 o4))
theorem wy3_calls (v1 v2 v3 v4 : Nat) (o1 o2 o3 o4 : Option Nat) (h1 : Dv v1 o1) (h2 : Dv v2 o2) (h3 : Dv v3 o3) (h4 : Dv v4 o4) (w : World) : Calls Try.prog 89 #[.float .f64 v1, .float .f64 v2, .float .f64 v3, .float .f64 v4] w fun e w' => ∃ v, e = .returned (.float .f64 v) ∧ Dv v (wy3 o1 o2 o3 o4) ∧ Drawn0 w w' := by
 obtain ⟨x11, m11, r11, D11⟩ := step_op .sub (.inr (.inl rfl)) 66 (show Dv 4607182418800017408 d1 from rfl) h4 w
 obtain ⟨x12, m12, r12, D12⟩ := step_op .mul (.inr (.inr (.inl rfl))) 66 h1 D11 (w.drewN m11)
 have DL := Aside0.mk D12
 clear D11 D12 h1 h2 h3 h4
 go_enter Try.func89, Try.ntmps89
 go_wp2_with (first | ((with_reducible refine gate_dst (N := 11) rfl ?_); refine Kd.event_run rfl (v := .float .f64 x11) (w1 := (w.drewN m11)) ?hr ?_; (case hr => first | (go_simp; done) | (go_simp; rfl) | exact r11)) | ((with_reducible refine gate_dst (N := 12) rfl ?_); refine Kd.event_run rfl (v := .float .f64 x12) (w1 := (w.drewN (m11 + m12))) ?hr ?_; (case hr => first | (go_simp; done) | (go_simp; rfl) | exact r12)))
 go_ret
 exact ⟨x12, rfl, DL.out, ⟨⟨m11 + m12, rfl⟩⟩⟩
def wy5 (o1 o2 o3 o4 : Option Nat) : Option Nat := (dop .add (dop .mul o1 (dop .sub d1 o4)) (dop .mul o3 (dop .sub d1 o2)))
theorem wy5_calls (v1 v2 v3 v4 : Nat) (o1 o2 o3 o4 : Option Nat) (h1 : Dv v1 o1) (h2 : Dv v2 o2) (h3 : Dv v3 o3) (h4 : Dv v4 o4) (w : World) : Calls Try.prog 91 #[.float .f64 v1, .float .f64 v2, .float .f64 v3, .float .f64 v4] w fun e w' => ∃ v, e = .returned (.float .f64 v) ∧ Dv v (wy5 o1 o2 o3 o4) ∧ Drawn0 w w' := by
 obtain ⟨x11, m11, r11, D11⟩ := step_op .sub (.inr (.inl rfl)) 66 (show Dv 4607182418800017408 d1 from rfl) h4 w
 obtain ⟨x12, m12, r12, D12⟩ := step_op .mul (.inr (.inr (.inl rfl))) 66 h1 D11 (w.drewN m11)
 obtain ⟨x15, m15, r15, D15⟩ := step_op .sub (.inr (.inl rfl)) 66 (show Dv 4607182418800017408 d1 from rfl) h2 (w.drewN (m11 + m12))
 obtain ⟨x16, m16, r16, D16⟩ := step_op .mul (.inr (.inr (.inl rfl))) 66 h3 D15 (w.drewN (m11 + m12 + m15))
 obtain ⟨x17, m17, r17, D17⟩ := step_op .add (.inl rfl) 66 D12 D16 (w.drewN (m11 + m12 + m15 + m16))
 have DL := Aside0.mk D17
 clear D11 D12 D15 D16 D17 h1 h2 h3 h4
 go_enter Try.func91, Try.ntmps91
 go_wp2_with (first | ((with_reducible refine gate_dst (N := 11) rfl ?_); refine Kd.event_run rfl (v := .float .f64 x11) (w1 := (w.drewN m11)) ?hr ?_; (case hr => first | (go_simp; done) | (go_simp; rfl) | exact r11)) | ((with_reducible refine gate_dst (N := 12) rfl ?_); refine Kd.event_run rfl (v := .float .f64 x12) (w1 := (w.drewN (m11 + m12))) ?hr ?_; (case hr => first | (go_simp; done) | (go_simp; rfl) | exact r12)) | ((with_reducible refine gate_dst (N := 15) rfl ?_); refine Kd.event_run rfl (v := .float .f64 x15) (w1 := (w.drewN (m11 + m12 + m15))) ?hr ?_; (case hr => first | (go_simp; done) | (go_simp; rfl) | exact r15)) | ((with_reducible refine gate_dst (N := 16) rfl ?_); refine Kd.event_run rfl (v := .float .f64 x16) (w1 := (w.drewN (m11 + m12 + m15 + m16))) ?hr ?_; (case hr => first | (go_simp; done) | (go_simp; rfl) | exact r16)) | ((with_reducible refine gate_dst (N := 17) rfl ?_); refine Kd.event_run rfl (v := .float .f64 x17) (w1 := (w.drewN (m11 + m12 + m15 + m16 + m17))) ?hr ?_; (case hr => first | (go_simp; done) | (go_simp; rfl) | exact r17)))
 go_ret
 exact ⟨x17, rfl, DL.out, ⟨⟨m11 + m12 + m15 + m16 + m17, rfl⟩⟩⟩
end Go.Proofs.Ytjlciehcddanpaa.A
end
section
set_option linter.unusedVariables false
set_option linter.unusedSimpArgs false
set_option linter.unusedSectionVars false
namespace Go.Proofs.Ytjlciehcddanpaa.A
open Go.RowKit Go.Shelf Go.Proofs.YtjlciehcddanpaaW.PrintWords Go.Proofs.YtjlciehcddanpaaW.PrintLast Go.Proofs.YtjlciehcddanpaaW.PrintMore Go.Proofs.Ytjlciehcddanpaa.PMixNames

section
variable {P : Program} {ops : Array Oper} {Q : Exit → Act → World → Prop} {o : Oper} {rest : List Oper} {a : Act}
theorem row_after {W : World} {g : Nat} {cells old : Array Value} {ty : TypeId} (hg : W.heap[g]? = some (.cells old ty (0, 0))) : (W.setRow g cells).heap[g]? = some (.cells cells ty (0, 0)) ∧ (∀ k, k ≠ g → (W.setRow g cells).heap[k]? = W.heap[k]?) ∧ (∀ B, B ≤ g → Below B W (W.setRow g cells)) :=
 ⟨setRow_heap W g old cells ty (0, 0) hg, fun k hk => setRow_other W g k cells hk, fun B hB => ⟨rfl, rfl, rfl, by simp [World.setRow], fun k hk => setRow_other W g k cells (by omega)⟩⟩
/-- a store of a struct into its box -/
theorem store_event {W : World} (hgd : o.guard = none) (hd : o.dst = none) {t : TypeId} {p v : Operand} (ho : o.op = .store t p v) (g : Nat) (cells old : Array Value) (ty : TypeId) (hp : a.eval p = .pointer (some ⟨g, 0, none⟩)) (hv : a.eval v = .agg cells) (hg : W.heap[g]? = some (.cells old ty (0, 0)))
    (hi : (P.info? t).map (·.size) = some cells.size) (hold : old.size = cells.size) (h1 : cells.all (·.oneCell') = true)
    (h : ∀ w1, w1.heap[g]? = some (.cells cells ty (0, 0)) → (∀ k, k ≠ g → w1.heap[k]? = W.heap[k]?) → (∀ B, B ≤ g → Below B W w1) → wpList P ops Q rest a w1) : wpList P ops Q (o :: rest) a W := by
 obtain ⟨r1, r2, r3⟩ := row_after (cells := cells) hg
 exact wpList_store_row hgd t p v ho g cells hp hv ty old hg hi hold h1 (by rw [hd]; exact h _ r1 r2 r3)
variable {w : World} {K : Act → World → Prop}
/-- the same in a drawn region -/
theorem store_step (hw : Region.wanted o (yielded ops a.tmps) = true) (hN : o.dst = none) {t : TypeId} {p v : Operand} (ho : o.op = .store t p v) (g : Nat) (cells old : Array Value) (ty : TypeId) (hp : a.eval p = .pointer (some ⟨g, 0, none⟩)) (hv : a.eval v = .agg cells) (hg : w.heap[g]? = some (.cells old ty (0, 0)))
    (hi : (P.info? t).map (·.size) = some cells.size) (hold : old.size = cells.size) (h1 : cells.all (·.oneCell') = true)
    (h : ∀ w1, w1.heap[g]? = some (.cells cells ty (0, 0)) → (∀ k, k ≠ g → w1.heap[k]? = w.heap[k]?) → (∀ B, B ≤ g → Below B w w1) → K a w1) : if Region.wanted o (yielded ops a.tmps) = true then Oper.wp P o a w K Q else K (a.put none undef) w := by
 obtain ⟨r1, r2, r3⟩ := row_after (cells := cells) hg
 rw [if_pos hw]
 exact wp_store_row t p v ho g cells hp hv ty old hg hi hold h1 (by rw [hN]; exact h _ r1 r2 r3)
end
section
variable {P : Program} {ops : Array Oper} {Q : Exit → Act → World → Prop} {o : Oper} {rest : List Oper} {a : Act}
theorem cell_after {W : World} {g : Nat} {cells : Array Value} {ty : TypeId} (i : Nat) (u : Value) (hg : W.heap[g]? = some (.cells cells ty (0, 0))) : (W.setCell ⟨g, i, none⟩ u).heap[g]? = some (.cells (cells.setIfInBounds i u) ty (0, 0)) ∧ (∀ k, k ≠ g → (W.setCell ⟨g, i, none⟩ u).heap[k]? = W.heap[k]?) ∧ (∀ B, B ≤ g → Below B W (W.setCell ⟨g, i, none⟩ u)) :=
 ⟨blk_set hg i u, fun k hk => Below.heap_setCell W _ u k hk, fun B hB => ⟨rfl, rfl, rfl, by simp [World.setCell], fun k hk => Below.heap_setCell W _ u k (by simp; omega)⟩⟩
theorem storec_run {W : World} {t : TypeId} {g i : Nat} {u : Value} {cells : Array Value} {ty : TypeId} (hu : u.cells = #[u]) (hg : W.heap[g]? = some (.cells cells ty (0, 0))) (ht : (P.info? t).map (·.size) = some 1) (hi : i < cells.size) (h1 : u.oneCell' = true) :
    (Instr.storeAt t (.pointer (some ⟨g, i, none⟩)) u).run P W = .ok () (W.setCell ⟨g, i, none⟩ u) :=
 run_store_run t u [u] hg (by rw [hu]) ht (by simp only [List.length_cons, List.length_nil]; omega) (by simpa using h1)
/-- a store of one cell -/
theorem storec_event {W : World} (hgd : o.guard = none) (hd : o.dst = none) {t : TypeId} {p v : Operand} (ho : o.op = .store t p v) (g i : Nat) (u : Value) (cells : Array Value) (ty : TypeId) (hp : a.eval p = .pointer (some ⟨g, i, none⟩)) (hv : a.eval v = u) (hu : u.cells = #[u]) (hg : W.heap[g]? = some (.cells cells ty (0, 0)))
    (ht : (P.info? t).map (·.size) = some 1) (hi : i < cells.size) (h1 : u.oneCell' = true)
    (h : ∀ w1, w1.heap[g]? = some (.cells (cells.setIfInBounds i u) ty (0, 0)) → (∀ k, k ≠ g → w1.heap[k]? = W.heap[k]?) → (∀ B, B ≤ g → Below B W w1) → wpList P ops Q rest a w1) : wpList P ops Q (o :: rest) a W := by
 obtain ⟨r1, r2, r3⟩ := cell_after i u hg
 refine wpList_plain hgd fun K hK => ?_
 unfold Oper.wp execOp
 simp only [ho, hp, hv, Sem.run_bind, Sem.run_pure, Result.andThen_ok, storec_run hu hg ht hi h1]
 show K (a.put o.dst undef) _
 rw [hd]
 exact hK _ _ (h _ r1 r2 r3)
variable {w : World} {K : Act → World → Prop}
theorem storec_step (hw : Region.wanted o (yielded ops a.tmps) = true) (hd : o.dst = none) {t : TypeId} {p v : Operand} (ho : o.op = .store t p v) (g i : Nat) (u : Value) (cells : Array Value) (ty : TypeId) (hp : a.eval p = .pointer (some ⟨g, i, none⟩)) (hv : a.eval v = u) (hu : u.cells = #[u]) (hg : w.heap[g]? = some (.cells cells ty (0, 0)))
    (ht : (P.info? t).map (·.size) = some 1) (hi : i < cells.size) (h1 : u.oneCell' = true)
    (h : ∀ w1, w1.heap[g]? = some (.cells (cells.setIfInBounds i u) ty (0, 0)) → (∀ k, k ≠ g → w1.heap[k]? = w.heap[k]?) → (∀ B, B ≤ g → Below B w w1) → K a w1) : if Region.wanted o (yielded ops a.tmps) = true then Oper.wp P o a w K Q else K (a.put none undef) w := by
 obtain ⟨r1, r2, r3⟩ := cell_after i u hg
 rw [if_pos hw]
 unfold Oper.wp execOp
 simp only [ho, hp, hv, Sem.run_bind, Sem.run_pure, Result.andThen_ok, storec_run hu hg ht hi h1]
 show K (a.put o.dst undef) _
 rw [hd]
 exact h _ r1 r2 r3
end
section
variable {P : Program} {ops : Array Oper} {Q : Exit → Act → World → Prop}
/-- A call of a function value, by its contract. -/
theorem goesV_ {oi : Oper} {N : Option Tmp} {a : Act} {w : World} {K : Act → World → Prop} {f : FuncId} {fn : Func} {os : Array Operand} {ts : Array TypeId} {tm : Operand} {caps : Array Value} (hf : P.funcs[f]? = some fn) (hname : (fn.name == "runtime.NumGoroutine") = false) (hb : fn.body.isSome = true) (args : Array Value)
    (hw : Region.wanted oi (yielded ops a.tmps) = true) (hN : oi.dst = N) (hop : oi.op = .call { callee := .value tm, args := os, argTypes := ts }) (htm : a.eval tm = .func (.func f) #[] caps) (hargs : os.map a.eval = args)
    (h : Calls P f (args ++ caps) w fun e w' => ∃ v, e = .returned v ∧ K (a.put N v) w') : if Region.wanted oi (yielded ops a.tmps) = true then Oper.wp P oi a w K Q else K (a.put N undef) w := by
 refine call_ f (args ++ caps) hw hN ?_ h
 have he := enters_ hf hname hb (args ++ caps) w
 unfold execOp
 simp [hop, resolve, Deferred.ofValue, invoke, htm, hargs, he]
end
section
variable {P : Program} {ops : Array Oper} {Q : Exit → Act → World → Prop} {o : Oper} {rest : List Oper} {a : Act}
variable {oi : Oper} {N : Option Tmp} {w : World} {K : Act → World → Prop}
/-- the same in a drawn region -/
theorem goesV0_ {f : FuncId} {fn : Func} {os : Array Operand} {ts : Array TypeId} {tm : Operand} (hf : P.funcs[f]? = some fn) (hname : (fn.name == "runtime.NumGoroutine") = false) (hb : fn.body.isSome = true) (args : Array Value)
    (hw : Region.wanted oi (yielded ops a.tmps) = true) (hN : oi.dst = N) (hop : oi.op = .call { callee := .value tm, args := os, argTypes := ts }) (htm : a.eval tm = .func (.func f) #[] #[]) (hargs : os.map a.eval = args)
    (h : Calls P f args w fun e w' => ∃ v, e = .returned v ∧ K (a.put N v) w') : if Region.wanted oi (yielded ops a.tmps) = true then Oper.wp P oi a w K Q else K (a.put N undef) w :=
 goesV_ hf hname hb args hw hN hop htm hargs (by rw [Array.append_empty]; exact h)
end
theorem size93 : (Try.prog.info? 93).map (·.size) = some 7 := by kernel_rfl
theorem size33 : (Try.prog.info? 33).map (·.size) = some 2 := by kernel_rfl
theorem size55 : (Try.prog.info? 55).map (·.size) = some 3 := by kernel_rfl
theorem size23 : (Try.prog.info? 23).map (·.size) = some 1 := by kernel_rfl
theorem ways_calls (w : World) : Calls Try.prog 66 #[] w fun e w' => e = .returned (.agg #[.nilFunc, .func (.func 87) #[] #[], .func (.func 88) #[] #[], .func (.func 89) #[] #[], .func (.func 90) #[] #[], .func (.func 91) #[] #[], .func (.func 92) #[] #[]]) ∧ Below w.heap.size w w' := by
 have hu93 := Try.underlying93
 have B_0 : Aside0 (Below w.heap.size w w) := ⟨Below.refl _ _⟩
 go_enter Try.func66, Try.ntmps66
 go_wp2_with (first | ((with_reducible refine gate_dst (N := 0) rfl ?_); refine box_event ?hg (N := 0) ?hd (cs := #[.nilFunc, .nilFunc, .nilFunc, .nilFunc, .nilFunc, .nilFunc, .nilFunc]) (t := 93) ?hr ?_; (case hd => rfl); (case hg => rfl); (case hr => first | (go_simp; done) | (go_simp; rfl)); intro g1 hg_ w1 hm_ hb_; have GP := Aside0.mk (show w.heap.size ≤ g1 by rw [hg_]; exact B_0.out.size); have B_1 := Aside0.mk (below_step B_0.out hb_); have P_1 := Aside0.mk (hm_); clear hm_ hb_ hg_) | ((with_reducible refine gate_store (p := 0) rfl ?_); refine store_event rfl rfl rfl g1 #[.nilFunc, .func (.func 87) #[] #[], .func (.func 88) #[] #[], .func (.func 89) #[] #[], .func (.func 90) #[] #[], .func (.func 91) #[] #[], .func (.func 92) #[] #[]] _ 93 rfl rfl P_1.out size93 rfl (by simp [Value.oneCell']) ?_; intro w2 hm_ hst_ hbl_; have B_2 := Aside0.mk (B_1.out.trans (hbl_ _ GP.out)); have P_2 := Aside0.mk (hm_); clear P_1 hm_ hst_ hbl_))
 refine bodyPost_ret (results_cell_row rfl _ _ g1 93 _ (0, 0) _ rfl P_2.out Try.underlying93 rfl (by kernel_rfl)) rfl ?_
 exact ⟨rfl, B_2.out⟩
set_option maxRecDepth 100000 in
theorem wayOf_1 (w : World) : Calls Try.prog 34 #[.int .i64 1] w fun e w' => e = .returned (.func (.func 87) #[] #[]) ∧ Below w.heap.size w w' := by
 go_enter Try.func34, Try.ntmps34
 go_wp2_with (first | (go_at_call 66; (with_reducible refine (ways_calls _).mono ?_); rintro e w1 ⟨rfl, hb⟩; have B1 := Aside0.mk hb; clear hb) | ((with_reducible refine gate_dst (N := 11) rfl ?_); refine Kd.event_run rfl (v := .func (.func 87) #[] #[]) (w1 := w1) ?hr ?_; (case hr => kernel_rfl)))
 go_ret
 exact ⟨rfl, B1.out⟩
set_option maxRecDepth 100000 in
theorem wayOf_2 (w : World) : Calls Try.prog 34 #[.int .i64 2] w fun e w' => e = .returned (.func (.func 88) #[] #[]) ∧ Below w.heap.size w w' := by
 go_enter Try.func34, Try.ntmps34
 go_wp2_with (first | (go_at_call 66; (with_reducible refine (ways_calls _).mono ?_); rintro e w1 ⟨rfl, hb⟩; have B1 := Aside0.mk hb; clear hb) | ((with_reducible refine gate_dst (N := 11) rfl ?_); refine Kd.event_run rfl (v := .func (.func 88) #[] #[]) (w1 := w1) ?hr ?_; (case hr => kernel_rfl)))
 go_ret
 exact ⟨rfl, B1.out⟩
set_option maxRecDepth 100000 in
theorem wayOf_3 (w : World) : Calls Try.prog 34 #[.int .i64 3] w fun e w' => e = .returned (.func (.func 89) #[] #[]) ∧ Below w.heap.size w w' := by
 go_enter Try.func34, Try.ntmps34
 go_wp2_with (first | (go_at_call 66; (with_reducible refine (ways_calls _).mono ?_); rintro e w1 ⟨rfl, hb⟩; have B1 := Aside0.mk hb; clear hb) | ((with_reducible refine gate_dst (N := 11) rfl ?_); refine Kd.event_run rfl (v := .func (.func 89) #[] #[]) (w1 := w1) ?hr ?_; (case hr => kernel_rfl)))
 go_ret
 exact ⟨rfl, B1.out⟩
set_option maxRecDepth 100000 in
theorem wayOf_5 (w : World) : Calls Try.prog 34 #[.int .i64 5] w fun e w' => e = .returned (.func (.func 91) #[] #[]) ∧ Below w.heap.size w w' := by
 go_enter Try.func34, Try.ntmps34
 go_wp2_with (first | (go_at_call 66; (with_reducible refine (ways_calls _).mono ?_); rintro e w1 ⟨rfl, hb⟩; have B1 := Aside0.mk hb; clear hb) | ((with_reducible refine gate_dst (N := 11) rfl ?_); refine Kd.event_run rfl (v := .func (.func 91) #[] #[]) (w1 := w1) ?hr ?_; (case hr => kernel_rfl)))
 go_ret
 exact ⟨rfl, B1.out⟩
theorem wayOf_no (w : World) : Calls Try.prog 34 #[.int .i64 7] w fun e w' => e = .returned .nilFunc ∧ Below w.heap.size w w' := by
 go_enter Try.func34, Try.ntmps34
 go_wp2
 go_ret
 exact ⟨rfl, Below.refl _ _⟩
end Go.Proofs.Ytjlciehcddanpaa.A
end
section
set_option linter.unusedVariables false
set_option linter.unusedSimpArgs false
set_option linter.unusedSectionVars false
namespace Go.Proofs.Ytjlciehcddanpaa.A
open Go.RowKit Go.Shelf Go.Proofs.YtjlciehcddanpaaW.PrintWords Go.Proofs.YtjlciehcddanpaaW.PrintLast Go.Proofs.YtjlciehcddanpaaW.PrintMore Go.Proofs.Ytjlciehcddanpaa.PMixNames

set_option maxRecDepth 100000
theorem One_1 (s sa d da : Nat) (hs : s < 4294967296) (hsa : sa < 4294967296) (hd : d < 4294967296) (hda : da < 4294967296) (hn : Nov (wy1 (wv s) (wv sa) (wv d) (wv da))) (w : World) : Calls Try.prog 11 #[.int .i64 1, .int .u32 (s : Int), .int .u32 (sa : Int), .int .u32 (d : Int), .int .u32 (da : Int)] w fun e w' => e = .returned (.tuple #[.int .u32 ((tl (wy1 (wv s) (wv sa) (wv d) (wv da)) : Nat) : Int), .int .i64 0]) ∧ Below w.heap.size w w' := by
 have HN := Aside0.mk hn
 have Hs := Aside0.mk hs
 have Hsa := Aside0.mk hsa
 have Hd := Aside0.mk hd
 have Hda := Aside0.mk hda
 clear hn hs hsa hd hda
 go_enter Try.func11, Try.ntmps11
 go_wp2_with (first | (go_at_call 34; (with_reducible refine (wayOf_1 _).mono ?_); rintro e w1 ⟨rfl, hb⟩; have B1 := Aside0.mk hb; clear hb) | ((with_reducible refine gate_dst (N := 16) rfl ?_); refine Kd.event_run rfl (v := .bool false) (w1 := w1) ?hr ?_; (case hr => kernel_rfl)) | (go_at_call 36; (with_reducible refine (value_calls s Hs.out _).mono ?_); rintro e w2 ⟨v2, rfl, hv, hd⟩; have V2 := Aside0.mk hv; have B2 := Aside0.mk (below_step B1.out hd.below); clear hv hd) | (go_at_call 36; (with_reducible refine (value_calls sa Hsa.out _).mono ?_); rintro e w3 ⟨v3, rfl, hv, hd⟩; have V3 := Aside0.mk hv; have B3 := Aside0.mk (below_step B2.out hd.below); clear hv hd) | (go_at_call 36; (with_reducible refine (value_calls d Hd.out _).mono ?_); rintro e w4 ⟨v4, rfl, hv, hd⟩; have V4 := Aside0.mk hv; have B4 := Aside0.mk (below_step B3.out hd.below); clear hv hd) | (go_at_call 36; (with_reducible refine (value_calls da Hda.out _).mono ?_); rintro e w5 ⟨v5, rfl, hv, hd⟩; have V5 := Aside0.mk hv; have B5 := Aside0.mk (below_step B4.out hd.below); clear hv hd) | (go_at_call 87; (with_reducible refine (wy1_calls v2 v3 v4 v5 _ _ _ _ V2.out V3.out V4.out V5.out _).mono ?_); rintro e w6 ⟨v6, rfl, hv, hd⟩; have V6 := Aside0.mk hv; have B6 := Aside0.mk (below_step B5.out hd.below); clear hv hd) | (go_at_call 35; (with_reducible refine (told_calls v6 _ V6.out HN.out _).mono ?_); rintro e w7 ⟨rfl, hb⟩; have B7 := Aside0.mk (below_step B6.out hb); clear hb))
 go_ret2
 exact ⟨rfl, B7.out⟩
theorem One_2 (s sa d da : Nat) (hs : s < 4294967296) (hsa : sa < 4294967296) (hd : d < 4294967296) (hda : da < 4294967296) (hn : Nov (wy2 (wv s) (wv sa) (wv d) (wv da))) (w : World) : Calls Try.prog 11 #[.int .i64 2, .int .u32 (s : Int), .int .u32 (sa : Int), .int .u32 (d : Int), .int .u32 (da : Int)] w fun e w' => e = .returned (.tuple #[.int .u32 ((tl (wy2 (wv s) (wv sa) (wv d) (wv da)) : Nat) : Int), .int .i64 0]) ∧ Below w.heap.size w w' := by
 have HN := Aside0.mk hn
 have Hs := Aside0.mk hs
 have Hsa := Aside0.mk hsa
 have Hd := Aside0.mk hd
 have Hda := Aside0.mk hda
 clear hn hs hsa hd hda
 go_enter Try.func11, Try.ntmps11
 go_wp2_with (first | (go_at_call 34; (with_reducible refine (wayOf_2 _).mono ?_); rintro e w1 ⟨rfl, hb⟩; have B1 := Aside0.mk hb; clear hb) | ((with_reducible refine gate_dst (N := 16) rfl ?_); refine Kd.event_run rfl (v := .bool false) (w1 := w1) ?hr ?_; (case hr => kernel_rfl)) | (go_at_call 36; (with_reducible refine (value_calls s Hs.out _).mono ?_); rintro e w2 ⟨v2, rfl, hv, hd⟩; have V2 := Aside0.mk hv; have B2 := Aside0.mk (below_step B1.out hd.below); clear hv hd) | (go_at_call 36; (with_reducible refine (value_calls sa Hsa.out _).mono ?_); rintro e w3 ⟨v3, rfl, hv, hd⟩; have V3 := Aside0.mk hv; have B3 := Aside0.mk (below_step B2.out hd.below); clear hv hd) | (go_at_call 36; (with_reducible refine (value_calls d Hd.out _).mono ?_); rintro e w4 ⟨v4, rfl, hv, hd⟩; have V4 := Aside0.mk hv; have B4 := Aside0.mk (below_step B3.out hd.below); clear hv hd) | (go_at_call 36; (with_reducible refine (value_calls da Hda.out _).mono ?_); rintro e w5 ⟨v5, rfl, hv, hd⟩; have V5 := Aside0.mk hv; have B5 := Aside0.mk (below_step B4.out hd.below); clear hv hd) | (go_at_call 88; (with_reducible refine (wy2_calls v2 v3 v4 v5 _ _ _ _ V2.out V3.out V4.out V5.out _).mono ?_); rintro e w6 ⟨v6, rfl, hv, hd⟩; have V6 := Aside0.mk hv; have B6 := Aside0.mk (below_step B5.out hd.below); clear hv hd) | (go_at_call 35; (with_reducible refine (told_calls v6 _ V6.out HN.out _).mono ?_); rintro e w7 ⟨rfl, hb⟩; have B7 := Aside0.mk (below_step B6.out hb); clear hb))
 go_ret2
 exact ⟨rfl, B7.out⟩
theorem One_3 (s sa d da : Nat) (hs : s < 4294967296) (hsa : sa < 4294967296) (hd : d < 4294967296) (hda : da < 4294967296) (hn : Nov (wy3 (wv s) (wv sa) (wv d) (wv da))) (w : World) : Calls Try.prog 11 #[.int .i64 3, .int .u32 (s : Int), .int .u32 (sa : Int), .int .u32 (d : Int), .int .u32 (da : Int)] w fun e w' => e = .returned (.tuple #[.int .u32 ((tl (wy3 (wv s) (wv sa) (wv d) (wv da)) : Nat) : Int), .int .i64 0]) ∧ Below w.heap.size w w' := by
 have HN := Aside0.mk hn
 have Hs := Aside0.mk hs
 have Hsa := Aside0.mk hsa
 have Hd := Aside0.mk hd
 have Hda := Aside0.mk hda
 clear hn hs hsa hd hda
 go_enter Try.func11, Try.ntmps11
 go_wp2_with (first | (go_at_call 34; (with_reducible refine (wayOf_3 _).mono ?_); rintro e w1 ⟨rfl, hb⟩; have B1 := Aside0.mk hb; clear hb) | ((with_reducible refine gate_dst (N := 16) rfl ?_); refine Kd.event_run rfl (v := .bool false) (w1 := w1) ?hr ?_; (case hr => kernel_rfl)) | (go_at_call 36; (with_reducible refine (value_calls s Hs.out _).mono ?_); rintro e w2 ⟨v2, rfl, hv, hd⟩; have V2 := Aside0.mk hv; have B2 := Aside0.mk (below_step B1.out hd.below); clear hv hd) | (go_at_call 36; (with_reducible refine (value_calls sa Hsa.out _).mono ?_); rintro e w3 ⟨v3, rfl, hv, hd⟩; have V3 := Aside0.mk hv; have B3 := Aside0.mk (below_step B2.out hd.below); clear hv hd) | (go_at_call 36; (with_reducible refine (value_calls d Hd.out _).mono ?_); rintro e w4 ⟨v4, rfl, hv, hd⟩; have V4 := Aside0.mk hv; have B4 := Aside0.mk (below_step B3.out hd.below); clear hv hd) | (go_at_call 36; (with_reducible refine (value_calls da Hda.out _).mono ?_); rintro e w5 ⟨v5, rfl, hv, hd⟩; have V5 := Aside0.mk hv; have B5 := Aside0.mk (below_step B4.out hd.below); clear hv hd) | (go_at_call 89; (with_reducible refine (wy3_calls v2 v3 v4 v5 _ _ _ _ V2.out V3.out V4.out V5.out _).mono ?_); rintro e w6 ⟨v6, rfl, hv, hd⟩; have V6 := Aside0.mk hv; have B6 := Aside0.mk (below_step B5.out hd.below); clear hv hd) | (go_at_call 35; (with_reducible refine (told_calls v6 _ V6.out HN.out _).mono ?_); rintro e w7 ⟨rfl, hb⟩; have B7 := Aside0.mk (below_step B6.out hb); clear hb))
 go_ret2
 exact ⟨rfl, B7.out⟩
theorem One_5 (s sa d da : Nat) (hs : s < 4294967296) (hsa : sa < 4294967296) (hd : d < 4294967296) (hda : da < 4294967296) (hn : Nov (wy5 (wv s) (wv sa) (wv d) (wv da))) (w : World) : Calls Try.prog 11 #[.int .i64 5, .int .u32 (s : Int), .int .u32 (sa : Int), .int .u32 (d : Int), .int .u32 (da : Int)] w fun e w' => e = .returned (.tuple #[.int .u32 ((tl (wy5 (wv s) (wv sa) (wv d) (wv da)) : Nat) : Int), .int .i64 0]) ∧ Below w.heap.size w w' := by
 have HN := Aside0.mk hn
 have Hs := Aside0.mk hs
 have Hsa := Aside0.mk hsa
 have Hd := Aside0.mk hd
 have Hda := Aside0.mk hda
 clear hn hs hsa hd hda
 go_enter Try.func11, Try.ntmps11
 go_wp2_with (first | (go_at_call 34; (with_reducible refine (wayOf_5 _).mono ?_); rintro e w1 ⟨rfl, hb⟩; have B1 := Aside0.mk hb; clear hb) | ((with_reducible refine gate_dst (N := 16) rfl ?_); refine Kd.event_run rfl (v := .bool false) (w1 := w1) ?hr ?_; (case hr => kernel_rfl)) | (go_at_call 36; (with_reducible refine (value_calls s Hs.out _).mono ?_); rintro e w2 ⟨v2, rfl, hv, hd⟩; have V2 := Aside0.mk hv; have B2 := Aside0.mk (below_step B1.out hd.below); clear hv hd) | (go_at_call 36; (with_reducible refine (value_calls sa Hsa.out _).mono ?_); rintro e w3 ⟨v3, rfl, hv, hd⟩; have V3 := Aside0.mk hv; have B3 := Aside0.mk (below_step B2.out hd.below); clear hv hd) | (go_at_call 36; (with_reducible refine (value_calls d Hd.out _).mono ?_); rintro e w4 ⟨v4, rfl, hv, hd⟩; have V4 := Aside0.mk hv; have B4 := Aside0.mk (below_step B3.out hd.below); clear hv hd) | (go_at_call 36; (with_reducible refine (value_calls da Hda.out _).mono ?_); rintro e w5 ⟨v5, rfl, hv, hd⟩; have V5 := Aside0.mk hv; have B5 := Aside0.mk (below_step B4.out hd.below); clear hv hd) | (go_at_call 91; (with_reducible refine (wy5_calls v2 v3 v4 v5 _ _ _ _ V2.out V3.out V4.out V5.out _).mono ?_); rintro e w6 ⟨v6, rfl, hv, hd⟩; have V6 := Aside0.mk hv; have B6 := Aside0.mk (below_step B5.out hd.below); clear hv hd) | (go_at_call 35; (with_reducible refine (told_calls v6 _ V6.out HN.out _).mono ?_); rintro e w7 ⟨rfl, hb⟩; have B7 := Aside0.mk (below_step B6.out hb); clear hb))
 go_ret2
 exact ⟨rfl, B7.out⟩
theorem One_no (s sa d da : Nat) (w : World) : Calls Try.prog 11 #[.int .i64 7, .int .u32 (s : Int), .int .u32 (sa : Int), .int .u32 (d : Int), .int .u32 (da : Int)] w fun e w' => e = .returned (.tuple #[.int .u32 0, .int .i64 150]) ∧ Below w.heap.size w w' := by
 go_enter Try.func11, Try.ntmps11
 go_wp2_with (first | (go_at_call 34; (with_reducible refine (wayOf_no _).mono ?_); rintro e w1 ⟨rfl, hb⟩; have B1 := Aside0.mk hb; clear hb) | ((with_reducible refine gate_dst (N := 16) rfl ?_); refine Kd.event_run rfl (v := .bool true) (w1 := w1) ?hr ?_; (case hr => kernel_rfl)))
 go_ret2
 exact ⟨rfl, B1.out⟩
def stp (a b t : Nat) : Option Nat := dop .add (dop .mul (wv a) (dop .sub d1 (wv t))) (dop .mul (wv b) (wv t))
theorem Step_calls (a b t : Nat) (ha : a < 4294967296) (hb : b < 4294967296) (ht : t < 4294967296) (hn : Nov (stp a b t)) (w : World) : Calls Try.prog 13 #[.int .u32 (a : Int), .int .u32 (b : Int), .int .u32 (t : Int)] w fun e w' => e = .returned (.int .u32 ((tl (stp a b t) : Nat) : Int)) ∧ Below w.heap.size w w' := by
 have HN := Aside0.mk hn
 have Ha := Aside0.mk ha
 have Hb := Aside0.mk hb
 have Ht := Aside0.mk ht
 have B0 : Aside0 (Below w.heap.size w w) := ⟨Below.refl _ _⟩
 clear hn ha hb ht
 go_enter Try.func13, Try.ntmps13
 go_wp2_with (first | (go_at_call 36; (with_reducible refine (value_calls t Ht.out _).mono ?_); rintro e w1 ⟨v1, rfl, hv, hd⟩; have V1 := Aside0.mk hv; have B1 := Aside0.mk (below_step B0.out hd.below); clear hv hd) | (go_at_call 36; (with_reducible refine (value_calls a Ha.out _).mono ?_); rintro e w2 ⟨v2, rfl, hv, hd⟩; have V2 := Aside0.mk hv; have B2 := Aside0.mk (below_step B1.out hd.below); clear hv hd) | ((with_reducible refine gate_dst (N := 13) rfl ?_); obtain ⟨v3, m3, r3, hv⟩ := step_op .sub (.inr (.inl rfl)) 66 (show Dv 4607182418800017408 d1 from rfl) V1.out w2; refine Kd.event_run rfl (v := .float .f64 v3) (w1 := w2.drewN m3) ?hr ?_; (case hr => first | (go_simp; done) | (go_simp; rfl) | exact r3); have V3 := Aside0.mk hv; have B3 := Aside0.mk (show Below w.heap.size w (w2.drewN m3) from pw_below_drewN B2.out m3); clear r3 hv; generalize w2.drewN m3 = w3 at *) | ((with_reducible refine gate_dst (N := 14) rfl ?_); obtain ⟨v4, m4, r4, hv⟩ := step_op .mul (.inr (.inr (.inl rfl))) 66 V2.out V3.out w3; refine Kd.event_run rfl (v := .float .f64 v4) (w1 := w3.drewN m4) ?hr ?_; (case hr => first | (go_simp; done) | (go_simp; rfl) | exact r4); have V4 := Aside0.mk hv; have B4 := Aside0.mk (show Below w.heap.size w (w3.drewN m4) from pw_below_drewN B3.out m4); clear r4 hv; generalize w3.drewN m4 = w4 at *) | (go_at_call 36; (with_reducible refine (value_calls b Hb.out _).mono ?_); rintro e w5 ⟨v5, rfl, hv, hd⟩; have V5 := Aside0.mk hv; have B5 := Aside0.mk (below_step B4.out hd.below); clear hv hd) | ((with_reducible refine gate_dst (N := 18) rfl ?_); obtain ⟨v6, m6, r6, hv⟩ := step_op .mul (.inr (.inr (.inl rfl))) 66 V5.out V1.out w5; refine Kd.event_run rfl (v := .float .f64 v6) (w1 := w5.drewN m6) ?hr ?_; (case hr => first | (go_simp; done) | (go_simp; rfl) | exact r6); have V6 := Aside0.mk hv; have B6 := Aside0.mk (show Below w.heap.size w (w5.drewN m6) from pw_below_drewN B5.out m6); clear r6 hv; generalize w5.drewN m6 = w6 at *) | ((with_reducible refine gate_dst (N := 19) rfl ?_); obtain ⟨v7, m7, r7, hv⟩ := step_op .add (.inl rfl) 66 V4.out V6.out w6; refine Kd.event_run rfl (v := .float .f64 v7) (w1 := w6.drewN m7) ?hr ?_; (case hr => first | (go_simp; done) | (go_simp; rfl) | exact r7); have V7 := Aside0.mk hv; have B7 := Aside0.mk (show Below w.heap.size w (w6.drewN m7) from pw_below_drewN B6.out m7); clear r7 hv; generalize w6.drewN m7 = w7 at *) | (go_at_call 35; refine (told_calls v7 (stp a b t) V7.out HN.out _).mono ?_; rintro e w8 ⟨rfl, hb⟩; have B8 := Aside0.mk (below_step B7.out hb); clear hb))
 go_ret
 exact ⟨rfl, B8.out⟩
theorem neq_t {a : Nat} (ha : a < 4294967296) (na : isnan a = true) : (FloatKind.f32.format.order a a != some .eq) = true ∧ (FloatKind.f32.format.order a a = some .eq) = False ∧ (FloatKind.f32.format.order a a == some .eq) = false := by
 rw [ord_nan ha ha (.inl na)]; exact ⟨rfl, eq_false (fun h => by cases h), rfl⟩
theorem aval_calls (s : Nat) (w : World) : Calls Try.prog 84 #[.int .u32 (s : Int)] w fun e w' => e = .returned (.float .f32 s) ∧ w' = w := by
 have hfrom := fun w => run_from s w
 go_enter Try.func84, Try.ntmps84
 go_wp2_with (((with_reducible refine gate_dst (N := 4) rfl ?_); refine Kd.event_run rfl (v := .float .f32 s) (w1 := w) ?hr ?_; (case hr => first | (go_simp; done) | (go_simp; rfl))))
 go_ret
 exact ⟨rfl, rfl⟩
theorem atold_calls (v : Nat) (hv : v < 4294967296) (w : World) : Calls Try.prog 83 #[.float .f32 v] w fun e w' => e = .returned (.int .u32 ((mk v : Nat) : Int)) ∧ w' = w := by
 have hb := fun w => run_bits v w
 cases hn : isnan v with
 | true =>
  obtain ⟨n1, n2, n3⟩ := neq_t hv hn
  have e : mk v = made := by unfold mk; rw [if_pos hn]
  rw [e]
  clear hn e hv
  go_enter Try.func83, Try.ntmps83
  go_wp2
  go_ret
  exact ⟨rfl, rfl⟩
 | false =>
  obtain ⟨n1, n2, n3⟩ := neq_f hv hn
  have e : mk v = v := by unfold mk; rw [if_neg (by rw [hn]; decide)]
  rw [e]
  clear hn e hv
  go_enter Try.func83, Try.ntmps83
  go_wp2_with (((with_reducible refine gate_dst (N := 7) rfl ?_); refine Kd.event_run rfl (v := .int .u32 (v : Int)) (w1 := w) ?hr ?_; (case hr => first | (go_simp; done) | (go_simp; rfl) | exact hb w)))
  go_ret
  exact ⟨rfl, rfl⟩
theorem Mul_calls (a b : Nat) (hr : ∀ r, floatBits .mul .f32 a b = some r → r < 4294967296) (w : World) : Calls Try.prog 59 #[.int .u32 (a : Int), .int .u32 (b : Int)] w fun e w' => e = .returned (.int .u32 ((nr (floatBits .mul .f32 a b) : Nat) : Int)) ∧ Drawn0 w w' := by
 obtain ⟨v, m, hm, h1, h2⟩ := step_op32 .mul (.inl rfl) 96 a b w
 have hv : v < 4294967296 ∧ nr (floatBits .mul .f32 a b) = mk v := by
  cases hb : floatBits .mul .f32 a b with
  | some r => have := h1 r hb; subst this; exact ⟨hr v hb, rfl⟩
  | none => obtain ⟨i1, i2⟩ := h2 hb; exact ⟨i2, by unfold nr mk; rw [if_pos i1]⟩
 rw [hv.2]
 have HV := Aside0.mk hv.1
 clear hv h1 h2 hr
 go_enter Try.func59, Try.ntmps59
 go_wp2_with (first | (go_at_call 84; refine (aval_calls a _).mono ?_; rintro e _ ⟨rfl, rfl⟩) | (go_at_call 84; refine (aval_calls b _).mono ?_; rintro e _ ⟨rfl, rfl⟩) | ((with_reducible refine gate_dst (N := 9) rfl ?_); refine Kd.event_run rfl (v := .float .f32 v) (w1 := w.drewN m) ?hr ?_; (case hr => first | (go_simp; done) | (go_simp; rfl) | exact hm)) | (go_at_call 83; refine (atold_calls v HV.out _).mono ?_; rintro e _ ⟨rfl, rfl⟩))
 go_ret
 exact ⟨rfl, ⟨⟨m, rfl⟩⟩⟩
theorem Div_calls (a b : Nat) (hr : ∀ r, floatBits .quo .f32 a b = some r → r < 4294967296) (w : World) : Calls Try.prog 62 #[.int .u32 (a : Int), .int .u32 (b : Int)] w fun e w' => e = .returned (.int .u32 ((nr (floatBits .quo .f32 a b) : Nat) : Int)) ∧ Drawn0 w w' := by
 obtain ⟨v, m, hm, h1, h2⟩ := step_op32 .quo (.inr rfl) 96 a b w
 have hv : v < 4294967296 ∧ nr (floatBits .quo .f32 a b) = mk v := by
  cases hb : floatBits .quo .f32 a b with
  | some r => have := h1 r hb; subst this; exact ⟨hr v hb, rfl⟩
  | none => obtain ⟨i1, i2⟩ := h2 hb; exact ⟨i2, by unfold nr mk; rw [if_pos i1]⟩
 rw [hv.2]
 have HV := Aside0.mk hv.1
 clear hv h1 h2 hr
 go_enter Try.func62, Try.ntmps62
 go_wp2_with (first | (go_at_call 84; refine (aval_calls a _).mono ?_; rintro e _ ⟨rfl, rfl⟩) | (go_at_call 84; refine (aval_calls b _).mono ?_; rintro e _ ⟨rfl, rfl⟩) | ((with_reducible refine gate_dst (N := 9) rfl ?_); refine Kd.event_run rfl (v := .float .f32 v) (w1 := w.drewN m) ?hr ?_; (case hr => first | (go_simp; done) | (go_simp; rfl) | exact hm)) | (go_at_call 83; refine (atold_calls v HV.out _).mono ?_; rintro e _ ⟨rfl, rfl⟩))
 go_ret
 exact ⟨rfl, ⟨⟨m, rfl⟩⟩⟩
theorem Equal_calls (a b : Nat) (ha : a < 4294967296) (hb : b < 4294967296) (w : World) : Calls Try.prog 61 #[.int .u32 (a : Int), .int .u32 (b : Int)] w fun e w' => e = .returned (.bool (eqv a b)) ∧ w' = w := by
 rw [← eq_ord ha hb]
 go_enter Try.func61, Try.ntmps61
 go_wp2_with (first | (go_at_call 84; refine (aval_calls a _).mono ?_; rintro e _ ⟨rfl, rfl⟩) | (go_at_call 84; refine (aval_calls b _).mono ?_; rintro e _ ⟨rfl, rfl⟩))
 go_ret
 exact ⟨rfl, rfl⟩
end Go.Proofs.Ytjlciehcddanpaa.A
end
section
set_option linter.unusedVariables false
set_option linter.unusedSimpArgs false
set_option linter.unusedSectionVars false
namespace Go.Proofs.Ytjlciehcddanpaa.A
open Go.RowKit Go.Shelf Go.Proofs.YtjlciehcddanpaaW.PrintWords Go.Proofs.YtjlciehcddanpaaW.PrintLast Go.Proofs.YtjlciehcddanpaaW.PrintMore Go.Proofs.Ytjlciehcddanpaa.PMixNames

open Ieee
/-- what a double is told as has the value of a sample -/
def Sm (s : Nat) (o : Option Nat) : Prop := Nov o ∧ tl o < 4294967296 ∧ (isnan s = true → tl o = made) ∧ (isnan s = false → isnan (tl o) = false ∧ pz (tl o) = pz s)
theorem Sm.nan {s : Nat} (h : isnan s = true) : Sm s none := ⟨(fun q hq => by cases hq), (by decide), (fun _ => rfl), (fun e => by rw [h] at e; cases e)⟩
theorem tl_some {q r : Nat} (h : floatToFloatBits .f64 q .f32 = some r) : tl (some q) = mk r := by simp only [tl, h]
theorem mk_ok {r : Nat} (h : isnan r = false) : mk r = r := by unfold mk; rw [if_neg (by rw [h]; decide)]
theorem Sm.fin {s : Nat} {z : Int} (h : F32 s z) {a : Bool} {n : Nat} {o : Option Nat} (hv : Fv a n o) (hz : sg a n = z) : Sm s o := by
 obtain ⟨b, r, rfl, hr, hs⟩ := h
 obtain ⟨r', rfl, hr', hU⟩ := hv
 have hn : n = U 23 cs r := by
  have := congrArg Int.natAbs (hz.trans hs.symm)
  rwa [sg_natAbs, sg_natAbs] at this
 obtain ⟨e1, e2⟩ := back_fin a hr' (by rw [hU, hn]; exact U_le_Mx hr)
 rw [hU, hn, G_U] at e1 e2
 have hw := isnan_word a (Nat.le_of_lt hr)
 have hw2 := isnan_word b (Nat.le_of_lt hr)
 have p32 : (2 : Nat) ^ 32 = 4294967296 := by decide
 rw [p32] at hw
 have ht : tl (some (double.word a r')) = single.word a r := by rw [tl_some e1, mk_ok hw.1]
 refine ⟨(fun q hq => ⟨_, (by cases hq; exact e1), hw.2⟩), (by rw [ht]; exact hw.2), (fun e => by rw [hw2.1] at e; cases e), (fun _ => ⟨(by rw [ht]; exact hw.1), ?_⟩)⟩
 rw [ht, pz_word a (Nat.lt_trans hr ils), pz_word b (Nat.lt_trans hr ils)]
 have hz2 : sg a (U 23 cs r) = sg b (U 23 cs r) := by rw [← hn, hz, ← hs, hn]
 rcases Nat.eq_zero_or_pos r with h0 | h0
 ·subst h0; cases a <;> cases b <;> rfl
 ·have hp : 0 < U 23 cs r := by
   have := (U_lt 23 cs (r := 0) (q := r)).mpr h0
   rw [U_0] at this
   exact this
  cases a <;> cases b <;> simp only [sg, Bool.false_eq_true, if_false, if_true] at hz2 ⊢ <;> omega
theorem Sm.inf (a : Bool) : Sm (single.word a single.infRung) (some (double.word a double.infRung)) := by
 have hw := isnan_word a (Nat.le_refl _)
 have p32 : (2 : Nat) ^ 32 = 4294967296 := by decide
 rw [p32] at hw
 have ht : tl (some (double.word a double.infRung)) = single.word a single.infRung := by rw [tl_some (back_inf a), mk_ok hw.1]
 exact ⟨(fun q hq => ⟨_, (by cases hq; exact back_inf a), hw.2⟩), (by rw [ht]; exact hw.2), (fun e => by rw [hw.1] at e; cases e), (fun _ => ⟨(by rw [ht]; exact hw.1), (by rw [ht])⟩)⟩
/-- the kinds of samples -/
theorem kinds {s : Nat} (hs : s < 4294967296) : (isnan s = true ∧ wv s = none) ∨ (∃ a, s = single.word a single.infRung ∧ wv s = some (double.word a double.infRung)) ∨ (∃ a r v, s = single.word a r ∧ r < single.infRung ∧ wv s = some v ∧ Fv a (U 23 cs r) (some v)) := by
 obtain ⟨a, r, hr, rfl⟩ := word_of Ieee.single (x := s) hs
 rcases Nat.lt_trichotomy r Ieee.single.infRung with h | h | h
 ·obtain ⟨c1, c2, c3⟩ := cvt_fin a h
  exact .inr (.inr ⟨a, r, _, rfl, h, c1, ⟨_, rfl, c3, c2⟩⟩)
 ·subst h; exact .inr (.inl ⟨a, rfl, cvt_inf a⟩)
 ·exact .inl ⟨isnan_nan a h hr, cvt_nan a h hr⟩
theorem one_fv : Fv false (2 ^ kk) d1 := by
 obtain ⟨s, e, h1, h2⟩ := int_word 1 (by decide)
 refine ⟨s, ?_, h1, by rw [h2, Nat.one_mul]⟩
 rw [← e]
 show some 4607182418800017408 = _
 decide +kernel
theorem wv_one : wv 1065353216 = d1 := by decide +kernel
theorem wv_zero : wv 0 = some 0 := by decide +kernel
theorem sub_11 : dop .sub d1 (wv 1065353216) = some 0 := by decide +kernel
theorem sub_10 : dop .sub d1 (wv 0) = d1 := by decide +kernel
theorem zero_fv : Fv false 0 (some 0) := ⟨0, by decide +kernel, by decide, U_0 _ _⟩
theorem big : 2 ^ 52 * 2 ^ be ≥ Mx := by
 have := sMx_lt 1 (by decide) (n := Mx) (by omega)
 exact this
theorem R_U23 (r : Nat) : R 52 cd (U 23 cs r) = U 23 cs r := by
 have := U23_rep 1 r (by decide)
 rwa [Nat.one_mul] at this
theorem mul_one {a : Bool} {r v : Nat} (h : r < single.infRung) (hv : Fv a (U 23 cs r) (some v)) : Fv a (U 23 cs r) (dop .mul (some v) d1) := by
 have h1 := mul_fin (N := U 23 cs r) hv (one_fv : Fv false (2 ^ kk) (some 4607182418800017408)) rfl (Nat.le_trans (U_le_Mx h) big)
 rw [R_U23, Bool.xor_false] at h1
 exact h1
theorem mul_zero {a : Bool} {r v : Nat} (hv : Fv a (U 23 cs r) (some v)) : Fv a 0 (dop .mul (some v) (some 0)) := by
 have h1 := mul_fin (N := 0) hv zero_fv (by rw [Nat.zero_mul, Nat.mul_zero]) (Nat.zero_le _)
 rw [R_0, Bool.xor_false] at h1
 exact h1
theorem inf_one (a : Bool) : dop .mul (some (double.word a double.infRung)) d1 = some (double.word a double.infRung) := by cases a <;> decide +kernel
/-- times one -/
theorem ends_one {s : Nat} (hs : s < 4294967296) : Sm s (dop .mul (wv s) d1) := by
 rcases kinds hs with ⟨h1, h2⟩ | ⟨a, rfl, h2⟩ | ⟨a, r, v, rfl, hr, h2, hv⟩
 ·rw [h2]; exact Sm.nan h1
 ·rw [h2, inf_one]; exact Sm.inf a
 ·rw [h2]; exact Sm.fin ⟨a, r, rfl, hr, rfl⟩ (mul_one hr hv) rfl
/-- times zero -/
theorem ends_zero {s : Nat} (hs : s < 4294967296) (hf : s % 2147483648 < 2139095040) : Sm 0 (dop .mul (wv s) (some 0)) := by
 have h0 : F32 0 0 := ⟨false, 0, by decide +kernel, by decide, by rw [U_0]; rfl⟩
 rcases kinds hs with ⟨h1, h2⟩ | ⟨a, rfl, h2⟩ | ⟨a, r, v, rfl, hr, h2, hv⟩
 ·exfalso
  unfold isnan at h1
  simp only [Bool.and_eq_true, decide_eq_true_eq] at h1
  have h23 : (2 : Nat) ^ 23 = 8388608 := by decide
  rw [h23] at h1
  omega
 ·exfalso
  revert hf
  cases a <;> decide +kernel
 ·rw [h2]
  exact Sm.fin h0 (mul_zero hv) (by cases a <;> rfl)
theorem Rz_U23 (a : Bool) (r : Nat) : Rz (sg a (U 23 cs r)) = sg a (U 23 cs r) := by
 unfold Rz
 rw [sg_natAbs, R_U23]
 rcases Nat.eq_zero_or_pos (U 23 cs r) with h | h
 ·rw [h]; cases a <;> rfl
 ·cases a
  ·rw [show decide (sg false (U 23 cs r) < 0) = false from decide_eq_false (by simp only [sg, Bool.false_eq_true, if_false]; omega)]
  ·rw [show decide (sg true (U 23 cs r) < 0) = true from decide_eq_true (by simp only [sg, if_true]; omega)]
theorem fin_kind {d : Nat} (hd : d < 4294967296) (hf : d % 2147483648 < 2139095040) : ∃ b q u, wv d = some u ∧ q < single.infRung ∧ Fv b (U 23 cs q) (some u) := by
 rcases kinds hd with ⟨h1, h2⟩ | ⟨a, rfl, h2⟩ | ⟨a, r, v, rfl, hr, h2, hv⟩
 ·exfalso
  unfold isnan at h1
  simp only [Bool.and_eq_true, decide_eq_true_eq] at h1
  have h23 : (2 : Nat) ^ 23 = 8388608 := by decide
  rw [h23] at h1
  omega
 ·exfalso
  revert hf
  cases a <;> decide +kernel
 ·exact ⟨a, r, v, h2, hr, hv⟩
theorem zero_words {b : Bool} {o : Option Nat} (h : Fv b 0 o) : o = some (double.word b 0) := by
 obtain ⟨r, rfl, hr, hu⟩ := h
 rcases Nat.eq_zero_or_pos r with h0 | h0
 ·rw [h0]
 ·have := (U_lt 52 cd (r := 0) (q := r)).mpr h0
  rw [U_0] at this
  omega
theorem inf_zero (a b : Bool) : dop .add (some (double.word a double.infRung)) (some (double.word b 0)) = some (double.word a double.infRung) := by cases a <;> cases b <;> decide +kernel
/-- and a zero -/
theorem ends_add {s d : Nat} (hs : s < 4294967296) (hd : d < 4294967296) (hf : d % 2147483648 < 2139095040) : Sm s (dop .add (wv s) (dop .mul (wv d) (some 0))) := by
 obtain ⟨b, q, u, e1, hq, hu⟩ := fin_kind hd hf
 have hz := mul_zero hu
 rw [← e1] at hz
 have hw := zero_words hz
 rcases kinds hs with ⟨h1, h2⟩ | ⟨a, rfl, h2⟩ | ⟨a, r, v, rfl, hr, h2, hv⟩
 ·rw [h2]; exact Sm.nan h1
 ·rw [h2, hw, inf_zero]; exact Sm.inf a
 ·rw [h2, hw]
  rw [hw] at hz
  obtain ⟨c, k, k1, k2, _, _⟩ := add_fin 1 (by decide) hv hz (by rw [Nat.add_zero, Nat.one_mul]; exact U_le_Mx hr)
  refine Sm.fin ⟨a, r, rfl, hr, rfl⟩ k1 ?_
  rw [k2, show sg b 0 = 0 by cases b <;> rfl, Int.add_zero, Rz_U23]
theorem zero_inf (a : Bool) : dop .add (some 0) (some (double.word a double.infRung)) = some (double.word a double.infRung) := by cases a <;> decide +kernel
/-- laid on nothing -/
theorem ends_under {d : Nat} (hd : d < 4294967296) : Sm d (dop .add (wv 0) (dop .mul (wv d) d1)) := by
 rw [wv_zero]
 rcases kinds hd with ⟨h1, h2⟩ | ⟨a, rfl, h2⟩ | ⟨a, r, v, rfl, hr, h2, hv⟩
 ·rw [h2]; exact Sm.nan h1
 ·rw [h2, inf_one, zero_inf]; exact Sm.inf a
 ·rw [h2]
  have hm := mul_one hr hv
  obtain ⟨x, hx, hy⟩ : ∃ x, dop .mul (some v) d1 = some x ∧ Fv a (U 23 cs r) (some x) := by
   obtain ⟨x, e, h3⟩ := hm
   exact ⟨_, e, ⟨x, rfl, h3⟩⟩
  rw [hx]
  obtain ⟨c, k, k1, k2, _, _⟩ := add_fin 1 (by decide) zero_fv hy (by rw [Nat.zero_add, Nat.one_mul]; exact U_le_Mx hr)
  refine Sm.fin ⟨a, r, rfl, hr, rfl⟩ k1 ?_
  rw [k2, show sg false 0 = 0 from rfl, Int.zero_add, Rz_U23]
end Go.Proofs.Ytjlciehcddanpaa.A
end
section
set_option linter.unusedVariables false
set_option linter.unusedSimpArgs false
set_option linter.unusedSectionVars false
namespace Go.Proofs.Ytjlciehcddanpaa.A
open Go.RowKit Go.Shelf Go.Proofs.YtjlciehcddanpaaW.PrintWords Go.Proofs.YtjlciehcddanpaaW.PrintLast Go.Proofs.YtjlciehcddanpaaW.PrintMore Go.Proofs.Ytjlciehcddanpaa.PMixNames

def ints (l : List Nat) : List Int := l.map fun (k : Nat) => (k : Int)
theorem ints_length (l : List Nat) : (ints l).length = l.length := by unfold ints; rw [List.length_map]
def nat (k : IntKind) : Kd Nat := Kd.scalar (fun x : Nat => Value.int k x) (fun _ => rfl)
/-- the element at a place (the walk's simp leaves it alone) -/
def gt (xs : List Nat) (i : Nat) : Nat := xs.getD i 0
set_option maxHeartbeats 1000000 in
set_option maxRecDepth 100000 in
theorem C_nat {k : IntKind} {w : World} {A : Option Addr} {n : Nat} {xs : List Nat} (h : (nat k).C w A n xs) (i : Nat) (hi : i < n) : ∃ ad, A = some ad ∧ w.cell? (ad.add i) = some (.int k (gt xs i)) := by
 obtain ⟨ad, c, hA, hl, hK, hc⟩ := Kd.C_get h 0 i (by omega) (by omega)
 refine ⟨ad, hA, ?_⟩
 have hK' : c = [.int k (gt xs i)] := hK
 have := hc 0 _ (by rw [hK']; rfl)
 simpa [nat, Kd.scalar] using this

theorem ints_getD (l : List Nat) (i : Nat) : (ints l).getD i 0 = ((gt l i : Nat) : Int) := by
 unfold gt ints
 rw [List.getD_eq_getElem?_getD, List.getD_eq_getElem?_getD, List.getElem?_map]
 cases l[i]? <;> rfl
section
variable {k : IntKind} {w : World} {A : Option Addr} {n : Nat} {xs : List Nat} {e : TypeId} {B : Nat} {ok : Nat → Prop} {v : Value}
theorem C_ints (h : (nat k).C w A n xs) : (Kd.int k).C w A n (ints xs) := by
 obtain ⟨h1, h2, h3⟩ := Kd.reads_of_C (d := 0) h
 refine Kd.C_of_reads (d := 0) ⟨by rw [ints_length]; exact h1, h2, fun hp => ?_⟩
 obtain ⟨ad, he, hc⟩ := h3 hp
 refine ⟨ad, he, fun j hj => ?_⟩
 rw [hc j hj, ints_getD]
 rfl
theorem C_nats (h : (Kd.int k).C w A n (ints xs)) : (nat k).C w A n xs := by
 obtain ⟨h1, h2, h3⟩ := Kd.reads_of_C (d := 0) h
 refine Kd.C_of_reads (d := 0) ⟨by rw [ints_length] at h1; exact h1, h2, fun hp => ?_⟩
 obtain ⟨ad, he, hc⟩ := h3 hp
 refine ⟨ad, he, fun j hj => ?_⟩
 have := hc j hj
 rw [ints_getD] at this
 exact this
end
theorem R_slice1 {α : Type} {d : Kd α} {e base : Nat} {ok : Nat → Prop} {w : World} {v : Value} {xs : List α} (h : d.R e w base ok v xs) (hn : 0 < xs.length) : ∃ (ad : Addr) (c : Nat), v = .slice (some ad) xs.length c := by
 obtain ⟨g, c, rfl, _⟩ := Kd.R_form h hn
 exact ⟨_, c, rfl⟩
def ApartV (u v : Value) : Prop := ∀ k, u.ownBlock = some k → v.ownBlock ≠ some k
/-- a slice's header -/
abbrev Hd := Option Addr × Nat × Nat
def Hd.v (h : Hd) : Value := .slice h.1 h.2.1 h.2.2
def hdr : Kd Hd := Kd.scalar (fun h : Hd => h.v) (fun _ => rfl)
/-- a plane's three cells, its samples' row aside -/
def pk : Kd (Nat × Nat × Hd) := Kd.pair (nat .i64) (Kd.pair (nat .i64) hdr)
theorem pk_M {w : World} {B : Nat} {ok : Nat → Prop} (x y : Nat) (h : Hd) : pk.M w B ok (x, y, h) [.int .i64 (x : Int), .int .i64 (y : Int), h.v] := ⟨[.int .i64 (x : Int)], [.int .i64 (y : Int), h.v], rfl, rfl, ⟨[.int .i64 (y : Int)], [h.v], rfl, rfl, rfl⟩⟩
theorem pk_move {W W1 : World} {B : Nat} {ok : Nat → Prop} {v : Value} {xs : List (Nat × Nat × Hd)} (h : pk.R 55 W B ok v xs) (hm : ∀ k, v.ownBlock = some k → W1.heap[k]? = W.heap[k]?) : pk.R 55 W1 B ok v xs := by
 obtain ⟨h0, inner, hown, hr⟩ := h
 refine ⟨h0, inner, own_move hown hm, hr.imp_ (fun x cs hx => ?_)⟩
 obtain ⟨c0, c1, rfl, e0, ⟨c2, c3, rfl, e1, e2⟩⟩ := hx
 exact ⟨c0, c2 ++ c3, rfl, e0, ⟨c2, c3, rfl, e1, e2⟩⟩
theorem pk_self {W : World} {B : Nat} {ok : Nat → Prop} {v : Value} {xs : List (Nat × Nat × Hd)} (h : pk.R 55 W B ok v xs) : pk.R 55 W B (fun k => v.ownBlock = some k) v xs := by
 obtain ⟨h0, inner, hown, hr⟩ := h
 refine ⟨fun k hk => hk, inner, hown, hr.imp_ (fun x cs hx => ?_)⟩
 obtain ⟨c0, c1, rfl, e0, ⟨c2, c3, rfl, e1, e2⟩⟩ := hx
 exact ⟨c0, c2 ++ c3, rfl, e0, ⟨c2, c3, rfl, e1, e2⟩⟩
theorem nat_self {k : IntKind} {e : TypeId} {W : World} {B : Nat} {ok : Nat → Prop} {v : Value} {xs : List Nat} (h : (nat k).R e W B ok v xs) : (nat k).R e W B (fun j => v.ownBlock = some j) v xs := Kd.R_of_own (Kd.own_of_R h) (fun _ hk => hk)
theorem nat_move {k : IntKind} {e : TypeId} {W W1 : World} {B : Nat} {ok : Nat → Prop} {v : Value} {xs : List Nat} (h : (nat k).R e W B ok v xs) (hm : ∀ j, v.ownBlock = some j → W1.heap[j]? = W.heap[j]?) : (nat k).R e W1 B ok v xs := Kd.R_of_own (own_move (Kd.own_of_R h) hm) h.1
/-- planes in memory of one's own: no two of them share a row -/
structure PlsOwn (B : Nat) (W : World) (vp : Value) (es : List (Nat × Nat × Hd)) (ss : List (List Nat)) : Prop where
 row : pk.R 55 W B (fun k => vp.ownBlock = some k) vp es
 len : es.length = ss.length
 pls : ∀ k (h1 : k < es.length), (nat .u32).R 23 W B (fun j => (es[k]).2.2.v.ownBlock = some j) (es[k]).2.2.v (ss.getD k [])
 ap : ∀ i j (h1 : i < es.length) (h2 : j < es.length), i ≠ j → ApartV (es[i]).2.2.v (es[j]).2.2.v
section
variable {B : Nat} {W W1 : World} {vp : Value} {es : List (Nat × Nat × Hd)} {ss : List (List Nat)}
theorem PlsOwn.move (H : PlsOwn B W vp es ss) (h1 : ∀ k, vp.ownBlock = some k → W1.heap[k]? = W.heap[k]?) (h2 : ∀ i (hi : i < es.length) k, (es[i]).2.2.v.ownBlock = some k → W1.heap[k]? = W.heap[k]?) : PlsOwn B W1 vp es ss :=
 ⟨pk_move H.row h1, H.len, fun k hk => nat_move (H.pls k hk) (h2 k hk), H.ap⟩
theorem PlsOwn.row_lt (H : PlsOwn B W vp es ss) {k : Nat} (hk : vp.ownBlock = some k) : B ≤ k ∧ k < W.heap.size ∧ ∃ cells, W.heap[k]? = some (.cells cells 55 (0, 0)) := by
 obtain ⟨h0, inner, hown, hr⟩ := H.row
 obtain ⟨cs, hc⟩ := own_typed hown k hk
 have := (Kd.R_bound H.row).1 k hk
 exact ⟨this.2.1, this.2.2.1, cs, hc⟩
theorem PlsOwn.pl_lt (H : PlsOwn B W vp es ss) {i : Nat} (hi : i < es.length) {k : Nat} (hk : (es[i]).2.2.v.ownBlock = some k) : B ≤ k ∧ k < W.heap.size ∧ ∃ cells, W.heap[k]? = some (.cells cells 23 (0, 0)) := by
 obtain ⟨cs, hc⟩ := own_typed (Kd.own_of_R (H.pls i hi)) k hk
 have := (Kd.R_bound (H.pls i hi)).1 k hk
 exact ⟨this.2.1, this.2.2.1, cs, hc⟩
theorem PlsOwn.below (H : PlsOwn B W vp es ss) (hb : Below W.heap.size W W1) : PlsOwn B W1 vp es ss :=
 H.move (fun k hk => hb.block k (H.row_lt hk).2.1) (fun i hi k hk => hb.block k (H.pl_lt hi hk).2.1)
theorem PlsOwn.keep (H : PlsOwn B W vp es ss) {g : Nat} (hst : ∀ k, k ≠ g → W1.heap[k]? = W.heap[k]?) (h1 : ¬ vp.ownBlock = some g) (h2 : ∀ i (hi : i < es.length), ¬ (es[i]).2.2.v.ownBlock = some g) : PlsOwn B W1 vp es ss :=
 H.move (fun k hk => hst k (fun e => h1 (e ▸ hk))) (fun i hi k hk => hst k (fun e => h2 i hi (e ▸ hk)))
theorem PlsOwn.ne_pl (H : PlsOwn B W vp es ss) {g : Nat} {cs : Array Value} {t : TypeId} (hg : W.heap[g]? = some (.cells cs t (0, 0))) (ht : t ≠ 23) : ∀ i (hi : i < es.length), ¬ (es[i]).2.2.v.ownBlock = some g := fun i hi e => by
 obtain ⟨_, _, cells, hc⟩ := H.pl_lt hi e
 rw [hg] at hc
 injection hc with hc
 injection hc with _ h2
 exact ht h2
theorem PlsOwn.ne_row (H : PlsOwn B W vp es ss) {g : Nat} {cs : Array Value} {t : TypeId} (hg : W.heap[g]? = some (.cells cs t (0, 0))) (ht : t ≠ 55) : ¬ vp.ownBlock = some g := fun e => by
 obtain ⟨_, _, cells, hc⟩ := H.row_lt e
 rw [hg] at hc
 injection hc with hc
 injection hc with _ h2
 exact ht h2
theorem PlsOwn.nil (B : Nat) (W : World) : PlsOwn B W (.slice none 0 0) [] [] := ⟨Kd.R_nil _ _ _ _ _, rfl, fun k hk => absurd hk (Nat.not_lt_zero _), fun i j hi => absurd hi (Nat.not_lt_zero _)⟩
theorem PlsOwn.push (H : PlsOwn B W vp es ss) (a b : Nat) (x : Hd) (zs : List Nat) {ok : Nat → Prop} (hx : (nat .u32).R 23 W B ok x.v zs) (hap : ∀ k (hk : k < es.length), ApartV (es[k]).2.2.v x.v) {v1 : Value} {ok1 : Nat → Prop} (hR : pk.R 55 W1 B ok1 v1 (es ++ [(a, b, x)])) (hg : W.grownBy W1 vp.ownBlock) :
    PlsOwn B W1 v1 (es ++ [(a, b, x)]) (ss ++ [zs]) := by
 have hne : ∀ k (cs : Array Value), W.heap[k]? = some (Obj.cells cs 23 (0, 0)) → W1.heap[k]? = W.heap[k]? := fun k cs hc => hg.block k (blk_lt hc) (fun e => by
  obtain ⟨_, _, cells, hc2⟩ := H.row_lt e.symm
  rw [hc] at hc2
  injection hc2 with hc2
  injection hc2 with _ h2
  exact absurd h2 (by decide))
 have hxt : ∀ j, x.v.ownBlock = some j → W1.heap[j]? = W.heap[j]? := fun j hj => by
  obtain ⟨cs, hc⟩ := own_typed (Kd.own_of_R hx) j hj
  exact hne j cs hc
 refine ⟨pk_self hR, by simp [H.len], fun k hk => ?_, fun i j h1 h2 hij => ?_⟩
 ·by_cases hkl : k < es.length
  ·have e1 : (es ++ [(a, b, x)])[k] = es[k] := List.getElem_append_left hkl
   have e2 : (ss ++ [zs]).getD k [] = ss.getD k [] := by
    rw [List.getD_eq_getElem?_getD, List.getD_eq_getElem?_getD, List.getElem?_append_left (by rw [← H.len]; exact hkl)]
   rw [e1, e2]
   exact nat_move (H.pls k hkl) (fun j hj => by obtain ⟨_, _, cs, hc⟩ := H.pl_lt hkl hj; exact hne j cs hc)
  ·have hk' : k = es.length := by simp at hk; omega
   subst hk'
   have e1 : (es ++ [(a, b, x)])[es.length] = (a, b, x) := by simp
   have e2 : (ss ++ [zs]).getD es.length [] = zs := by rw [H.len]; simp
   rw [e1, e2]
   exact nat_self (nat_move hx hxt)
 ·by_cases hi : i < es.length
  ·by_cases hj : j < es.length
   ·rw [List.getElem_append_left hi, List.getElem_append_left hj]; exact H.ap i j hi hj hij
   ·have hj' : j = es.length := by simp at h2; omega
    subst hj'
    have e1 : (es ++ [(a, b, x)])[es.length] = (a, b, x) := by simp
    rw [List.getElem_append_left hi, e1]; exact hap i hi
  ·have hi' : i = es.length := by simp at h1; omega
   subst hi'
   have hj : j < es.length := by simp at h2; omega
   have e1 : (es ++ [(a, b, x)])[es.length] = (a, b, x) := by simp
   rw [List.getElem_append_left hj, e1]
   exact fun k hk he => hap j hj k he hk
theorem PlsOwn.cells {ap : Addr} {n c : Nat} (H : PlsOwn B W (.slice (some ap) n c) es ss) {k : Nat} (hk : k < es.length) :
    W.cell? (ap.add (k * 3)) = some (.int .i64 ((es[k]).1 : Int)) ∧ W.cell? (ap.add (k * 3 + 1)) = some (.int .i64 ((es[k]).2.1 : Int)) ∧ W.cell? (ap.add (k * 3 + 2)) = some (es[k]).2.2.v := by
 obtain ⟨e, _, hC⟩ := Kd.R_reads' H.row
 obtain ⟨cs, h1, h2, h3⟩ := Kd.R_get H.row (0, 0, (none, 0, 0)) (k : Int) (by omega) (by omega)
 have h4 : es.getD (k : Int).toNat (0, 0, (none, 0, 0)) = es[k] := by
  rw [Int.toNat_natCast, List.getD_eq_getElem?_getD, List.getElem?_eq_getElem hk, Option.getD_some]
 rw [h4] at h2
 obtain ⟨c0, c1, rfl, e0, ⟨c2, c3, rfl, e1, e3⟩⟩ := h2
 have e0' : c0 = [.int .i64 ((es[k]).1 : Int)] := e0
 have e1' : c2 = [.int .i64 ((es[k]).2.1 : Int)] := e1
 have e3' : c3 = [(es[k]).2.2.v] := e3
 subst e0' e1' e3'
 have hsz : pk.sz = 3 := rfl
 rw [hsz, Int.toNat_natCast] at h3
 exact ⟨h3 0 _ rfl, h3 1 _ rfl, h3 2 _ rfl⟩
/-- the planes as data -/
def plsL (es : List (Nat × Nat × Hd)) (ss : List (List Nat)) : List S55 := (List.range es.length).map (fun k => ⟨(((es[k]?.getD (0, 0, (none, 0, 0))).1 : Nat) : Int), (((es[k]?.getD (0, 0, (none, 0, 0))).2.1 : Nat) : Int), ints (ss.getD k [])⟩)
theorem PlsOwn.C55 (H : PlsOwn B W vp es ss) (h0 : 0 < ss.length) (hm : ss.length ≤ 1048576) :
    ∃ ap c, vp = .slice (some ap) ss.length c ∧ ss.length ≤ c ∧ Kd.C k55 W (some ap) ss.length (plsL es ss) := by
 have hl : es.length = ss.length := H.len
 obtain ⟨ap, c, rfl⟩ := R_slice1 H.row (by rw [hl]; exact h0)
 rw [hl] at H ⊢
 have h4 := Kd.R_reads' H.row
 refine ⟨ap, c, rfl, h4.2.1, by simp [plsL, hl], by omega, fun _ => ⟨ap, rfl, fun j p hj => ?_⟩⟩
 have hjl : j < es.length := by
  have := (List.getElem?_eq_some_iff.mp hj).1
  simpa [plsL] using this
 have hp : p = ⟨((es[j]).1 : Int), ((es[j]).2.1 : Int), ints (ss.getD j [])⟩ := by
  unfold plsL at hj
  rw [List.getElem?_map, List.getElem?_range hjl, Option.map_some, Option.some.injEq, List.getElem?_eq_getElem hjl, Option.getD_some] at hj
  exact hj.symm
 subst hp
 obtain ⟨s0, s1, s2⟩ := H.cells hjl
 obtain ⟨A2, c2, hv, hc2, hC2⟩ := Kd.R_reads (H.pls j hjl)
 rw [hv] at s2
 refine ⟨[.int .i64 ((es[j]).1 : Int), .int .i64 ((es[j]).2.1 : Int), .slice A2 (ss.getD j []).length c2], rfl, ?_, fun i u hu => ?_⟩
 ·have := k55_mk W ⟨((es[j]).1 : Int), ((es[j]).2.1 : Int), ints (ss.getD j [])⟩ (A2 := A2) (c2 := c2) (by show (ints (ss.getD j [])).length ≤ c2; rw [ints_length]; exact hc2) (by show (Kd.int .u32).C W A2 (ints (ss.getD j [])).length (ints (ss.getD j [])); rw [ints_length]; exact C_ints hC2)
  simp only [ints_length] at this
  exact this
 ·match i, hu with
  | 0, hu => injection hu with hu; subst hu; exact s0
  | 1, hu => injection hu with hu; subst hu; exact s1
  | 2, hu => injection hu with hu; subst hu; exact s2
end
theorem apart_of {B : Nat} {W0 W : World} {es : List (Nat × Nat × Hd)} {ss : List (List Nat)} {vp v : Value} {zs : List Nat} {ok : Nat → Prop} (H : PlsOwn B W0 vp es ss) (hR : (nat .u32).R 23 W W0.heap.size ok v zs) : ∀ k (hk : k < es.length), ApartV (es[k]).2.2.v v := fun k hk j hj he => by
 have h1 := (H.pl_lt hk hj).2.1
 have h2 := ((Kd.R_bound hR).1 j he).2.1
 omega
end Go.Proofs.Ytjlciehcddanpaa.A
end
section
set_option linter.unusedVariables false
set_option linter.unusedSimpArgs false
set_option linter.unusedSectionVars false
namespace Go.Proofs.Ytjlciehcddanpaa.A
open Go.RowKit Go.Shelf Go.Proofs.YtjlciehcddanpaaW.PrintWords Go.Proofs.YtjlciehcddanpaaW.PrintLast Go.Proofs.YtjlciehcddanpaaW.PrintMore Go.Proofs.Ytjlciehcddanpaa.PMixNames

set_option maxRecDepth 100000
section
variable {P : Program} {ops : Array Oper} {Q : Exit → Act → World → Prop} {o : Oper} {rest : List Oper} {a : Act}
theorem row_event {W : World} (hgd : o.guard = none) {N : Tmp} (_hd : o.dst = some N) {cs : Array Value} {t : TypeId} {len : Nat}
    (hrun : (execOp a.eval o).run P W = .ok (.value (.slice (some ⟨W.heap.size, 0, none⟩) len len)) (W.alloc (.cells cs t (0, 0))))
    (h : ∀ g, g = W.heap.size → ∀ w1, w1.heap[g]? = some (.cells cs t (0, 0)) → Below W.heap.size W w1 → wpList P ops Q rest (a.put o.dst (.slice (some ⟨g, 0, none⟩) len len)) w1) : wpList P ops Q (o :: rest) a W :=
 Kd.event_run hgd hrun (h _ rfl _ (blk_new W _) (below_alloc (Below.refl _ _) _))
variable {w : World} {K : Act → World → Prop} {N : Option Tmp}
theorem row_step (hw : Region.wanted o (yielded ops a.tmps) = true) (hN : o.dst = N) {cs : Array Value} {t : TypeId} {len : Nat}
    (hrun : (execOp a.eval o).run P w = .ok (.value (.slice (some ⟨w.heap.size, 0, none⟩) len len)) (w.alloc (.cells cs t (0, 0))))
    (h : ∀ g, g = w.heap.size → ∀ w1, w1.heap[g]? = some (.cells cs t (0, 0)) → Below w.heap.size w w1 → K (a.put N (.slice (some ⟨g, 0, none⟩) len len)) w1) : if Region.wanted o (yielded ops a.tmps) = true then Oper.wp P o a w K Q else K (a.put N undef) w :=
 value_ hw hN hrun (h _ rfl _ (blk_new w _) (below_alloc (Below.refl _ _) _))
theorem box_step (hw : Region.wanted o (yielded ops a.tmps) = true) (hN : o.dst = N) {cs : Array Value} {t : TypeId}
    (hrun : (execOp a.eval o).run P w = .ok (.value (.pointer (some ⟨w.heap.size, 0, none⟩))) (w.alloc (.cells cs t (0, 0))))
    (h : ∀ g, g = w.heap.size → ∀ w1, w1.heap[g]? = some (.cells cs t (0, 0)) → Below w.heap.size w w1 → K (a.put N (.pointer (some ⟨g, 0, none⟩))) w1) : if Region.wanted o (yielded ops a.tmps) = true then Oper.wp P o a w K Q else K (a.put N undef) w :=
 value_ hw hN hrun (h _ rfl _ (blk_new w _) (below_alloc (Below.refl _ _) _))
end
/-- a plane of one sample -/
def pl (s : Nat) : S55 := ⟨1, 1, [(s : Int)]⟩
/-- a row of planes of one sample, as it is read -/
def Pc (w : World) (A : Option Addr) (c : Nat) (ss : List Nat) : Prop := ss.length ≤ c ∧ Kd.C k55 w A ss.length (ss.map pl)
theorem Pc.below {w w' : World} {A : Option Addr} {c : Nat} {ss : List Nat} (h : Pc w A c ss) (hb : Below w.heap.size w w') : Pc w' A c ss := ⟨h.1, Kd.C_below h.2 hb⟩
theorem Pc.at_ {w : World} {A : Option Addr} {c : Nat} {ss : List Nat} (h : Pc w A c ss) (i : Nat) (hi : i < ss.length) : ∃ (ad A2 : Addr) (c2 : Nat), A = some ad ∧ w.cell? (ad.add (i * 3)) = some (.int .i64 1) ∧ w.cell? ⟨(ad.add (i * 3)).block, (ad.add (i * 3)).off + 1, none⟩ = some (.int .i64 1) ∧ w.cell? ⟨(ad.add (i * 3)).block, (ad.add (i * 3)).off + 2, none⟩ = some (.slice (some A2) 1 c2) ∧ 1 ≤ c2 ∧ w.cell? A2 = some (.int .u32 ((gt ss i : Nat) : Int)) := by
 obtain ⟨ad, A2, c2, e, k0, k1, k2, l2, g2⟩ := at_T55 h.2 (i : Int) (by omega) (by omega)
 have er : rd_T55 (ss.map pl) (i : Int) = pl (gt ss i) := by
  unfold rd_T55 gt
  rw [Int.toNat_natCast, List.getD_eq_getElem?_getD, List.getD_eq_getElem?_getD, List.getElem?_map, List.getElem?_eq_getElem hi]; rfl
 rw [er, Int.toNat_natCast] at k0 k1 k2
 rw [er] at l2 g2
 obtain ⟨b, hb, hc⟩ := C_nat (k := .u32) (xs := [gt ss i]) (C_nats g2) 0 (by show 0 < 1; decide)
 subst hb
 refine ⟨ad, b, c2, e, k0, k1, k2, l2, ?_⟩
 have e9 : gt [gt ss i] 0 = gt ss i := rfl
 rw [e9] at hc
 simpa [Addr.add] using hc
theorem at_calls (sp : Int) (A : Option Addr) (c : Nat) (ss : List Nat) (k : Nat) (hk : k < ss.length) (h8 : ss.length < 1000) (w : World) (h : Pc w A c ss) : Calls Try.prog 31 #[.agg #[.int .i64 sp, .slice A ss.length c], .int .i64 (k : Int)] w fun e w' => e = .returned (.int .u32 ((gt ss k : Nat) : Int)) ∧ Below w.heap.size w w' := by
 obtain ⟨ad, A2, c2, rfl, k0, k1, k2, l2, hs⟩ := h.at_ k hk
 obtain ⟨n, hn⟩ : ∃ n, ss.length = n := ⟨_, rfl⟩
 rw [hn] at hk h8 ⊢
 obtain ⟨s, hv⟩ : ∃ s, gt ss k = s := ⟨_, rfl⟩
 rw [hv] at hs ⊢
 have HK2 : Aside0 (∀ W, Below w.heap.size w W → W.cell? ⟨(ad.add (k * 3)).block, (ad.add (k * 3)).off + 2, none⟩ = some (.slice (some A2) 1 c2)) := ⟨fun W hb => pw_cell_below hb k2⟩
 have HS : Aside0 (∀ W, Below w.heap.size w W → W.cell? A2 = some (.int .u32 (s : Int))) := ⟨fun W hb => pw_cell_below hb hs⟩
 have e1k : decide ((0 : Int) ≤ (k : Int)) = true := decide_eq_true (by omega)
 have e2k : decide ((k : Int) < (n : Int)) = true := decide_eq_true (by omega)
 have e5k : ((0 : Int) ≤ (k : Int)) = True := eq_true (by omega)
 have e6k : ((k : Int) < (n : Int)) = True := eq_true (by omega)
 have e7k : (k < n) = True := eq_true (by omega)
 have B_0 : Aside0 (Below w.heap.size w w) := ⟨Below.refl _ _⟩
 clear k0 k1 k2 hs hn hv h hk h8
 go_enter Try.func31, Try.ntmps31
 go_wp2_with (((with_reducible refine gate_dst (N := 2) rfl ?_); refine box_event ?hg (N := 2) ?hd (cs := #[.int .i64 sp, .slice (some ad) n c]) (t := 33) ?hr ?_; (case hd => rfl); (case hg => rfl); (case hr => first | (go_simp; done) | (go_simp; rfl)); intro g2 hg_ w1 hm_ hb_; have GP := Aside0.mk (show w.heap.size ≤ g2 by rw [hg_]; exact B_0.out.size); have B_1 := Aside0.mk (below_step B_0.out hb_); have P_1 := Aside0.mk (hm_); have cP0 := (blk_cell P_1.out 0).trans rfl; have cP1 := (blk_cell P_1.out 1).trans rfl; have k2 := HK2.out _ hb_; have hs := HS.out _ hb_; clear hm_ hb_ hg_))
 go_ret
 exact ⟨rfl, B_1.out⟩
theorem single_calls (s : Nat) (w : World) : Calls Try.prog 28 #[.int .u32 (s : Int)] w fun e w' => ∃ r, e = .returned (.agg #[.int .i64 1, .int .i64 1, .slice (some ⟨r, 0, none⟩) 1 1]) ∧ w'.heap[r]? = some (.cells #[.int .u32 (s : Int)] 23 (0, 0)) ∧ Below w.heap.size w w' := by
 have hu55 := Try.underlying55
 have B_0 : Aside0 (Below w.heap.size w w) := ⟨Below.refl _ _⟩
 go_enter Try.func28, Try.ntmps28
 go_wp2_with (first | ((with_reducible refine gate_dst (N := 2) rfl ?_); refine box_event ?hg (N := 2) ?hd (cs := #[.int .i64 0, .int .i64 0, .slice none 0 0]) (t := 55) ?hr ?_; (case hd => rfl); (case hg => rfl); (case hr => first | (go_simp; done) | (go_simp; rfl)); intro g2 hg_ w1 hm_ hb_; have GP := Aside0.mk (show w.heap.size ≤ g2 by rw [hg_]; exact B_0.out.size); have B_1 := Aside0.mk (below_step B_0.out hb_); have P_1 := Aside0.mk (hm_); clear hm_ hb_ hg_) | ((with_reducible refine gate_dst (N := 4) rfl ?_); refine row_event ?hg (N := 4) ?hd (cs := #[.int .u32 (s : Int)]) (t := 23) (len := 1) ?hr ?_; (case hd => rfl); (case hg => rfl); (case hr => first | (go_simp; done) | (go_simp; rfl)); intro g4 hg_ w2 hm_ hb_; have NEPR := Aside0.mk (show g2 ≠ g4 by rw [hg_]; have := blk_lt P_1.out; omega); have GR := Aside0.mk (show w.heap.size ≤ g4 by rw [hg_]; exact B_1.out.size); have B_2 := Aside0.mk (below_step B_1.out hb_); have P_2 := Aside0.mk (blk_below P_1.out hb_); clear P_1; have R_2 := Aside0.mk (hm_); clear hm_ hb_ hg_) | ((with_reducible refine gate_store (p := 2) rfl ?_); refine store_event rfl rfl rfl g2 #[.int .i64 1, .int .i64 1, .slice (some ⟨g4, 0, none⟩) 1 1] _ 55 rfl rfl P_2.out size55 rfl (by simp [Value.oneCell']) ?_; intro w3 hm_ hst_ hbl_; have B_3 := Aside0.mk (B_2.out.trans (hbl_ _ GP.out)); have R_3 := Aside0.mk ((hst_ g4 NEPR.out.symm).trans R_2.out); have P_3 := Aside0.mk (hm_); clear P_2 R_2 hm_ hst_ hbl_))
 refine bodyPost_ret (results_cell_row rfl _ _ g2 55 _ (0, 0) _ rfl P_3.out Try.underlying55 rfl (by kernel_rfl)) rfl ?_
 exact ⟨g4, rfl, R_3.out, B_3.out⟩
theorem Pc.lit4 {w : World} {g r0 r1 r2 r3 a b c d : Nat} (hg : w.heap[g]? = some (.cells #[.int .i64 1, .int .i64 1, .slice (some ⟨r0, 0, none⟩) 1 1, .int .i64 1, .int .i64 1, .slice (some ⟨r1, 0, none⟩) 1 1, .int .i64 1, .int .i64 1, .slice (some ⟨r2, 0, none⟩) 1 1, .int .i64 1, .int .i64 1, .slice (some ⟨r3, 0, none⟩) 1 1] 55 (0, 0)))
    (h0 : w.heap[r0]? = some (.cells #[.int .u32 (a : Int)] 23 (0, 0))) (h1 : w.heap[r1]? = some (.cells #[.int .u32 (b : Int)] 23 (0, 0))) (h2 : w.heap[r2]? = some (.cells #[.int .u32 (c : Int)] 23 (0, 0))) (h3 : w.heap[r3]? = some (.cells #[.int .u32 (d : Int)] 23 (0, 0))) : Pc w (some ⟨g, 0, none⟩) 4 [a, b, c, d] := by
 have one : ∀ (r s : Nat), w.heap[r]? = some (.cells #[.int .u32 (s : Int)] 23 (0, 0)) → (Kd.int .u32).C w (some ⟨r, 0, none⟩) 1 [(s : Int)] := fun r s h => by
  refine Kd.C_of_reads (d := 0) ⟨rfl, by decide, fun _ => ⟨_, rfl, fun j hj => ?_⟩⟩
  have : j = 0 := by simpa using hj
  subst this
  exact (blk_cell h 0).trans rfl
 refine ⟨Nat.le_refl _, ?_⟩
 refine ⟨rfl, by show (4 : Nat) ≤ _; decide, fun _ => ⟨_, rfl, fun j p hj => ?_⟩⟩
 match j, hj with
 | 0, hj => injection hj with hj; subst hj; exact ⟨[.int .i64 1, .int .i64 1, .slice (some ⟨r0, 0, none⟩) 1 1], rfl, k55_mk w (pl a) (A2 := some ⟨r0, 0, none⟩) (c2 := 1) (Nat.le_refl 1) (one r0 a h0), fun i u hu => by
     match i, hu with
     | 0, hu => injection hu with hu; subst hu; exact (blk_cell hg 0).trans rfl
     | 1, hu => injection hu with hu; subst hu; exact (blk_cell hg 1).trans rfl
     | 2, hu => injection hu with hu; subst hu; exact (blk_cell hg 2).trans rfl⟩
 | 1, hj => injection hj with hj; subst hj; exact ⟨[.int .i64 1, .int .i64 1, .slice (some ⟨r1, 0, none⟩) 1 1], rfl, k55_mk w (pl b) (A2 := some ⟨r1, 0, none⟩) (c2 := 1) (Nat.le_refl 1) (one r1 b h1), fun i u hu => by
     match i, hu with
     | 0, hu => injection hu with hu; subst hu; exact (blk_cell hg 3).trans rfl
     | 1, hu => injection hu with hu; subst hu; exact (blk_cell hg 4).trans rfl
     | 2, hu => injection hu with hu; subst hu; exact (blk_cell hg 5).trans rfl⟩
 | 2, hj => injection hj with hj; subst hj; exact ⟨[.int .i64 1, .int .i64 1, .slice (some ⟨r2, 0, none⟩) 1 1], rfl, k55_mk w (pl c) (A2 := some ⟨r2, 0, none⟩) (c2 := 1) (Nat.le_refl 1) (one r2 c h2), fun i u hu => by
     match i, hu with
     | 0, hu => injection hu with hu; subst hu; exact (blk_cell hg 6).trans rfl
     | 1, hu => injection hu with hu; subst hu; exact (blk_cell hg 7).trans rfl
     | 2, hu => injection hu with hu; subst hu; exact (blk_cell hg 8).trans rfl⟩
 | 3, hj => injection hj with hj; subst hj; exact ⟨[.int .i64 1, .int .i64 1, .slice (some ⟨r3, 0, none⟩) 1 1], rfl, k55_mk w (pl d) (A2 := some ⟨r3, 0, none⟩) (c2 := 1) (Nat.le_refl 1) (one r3 d h3), fun i u hu => by
     match i, hu with
     | 0, hu => injection hu with hu; subst hu; exact (blk_cell hg 9).trans rfl
     | 1, hu => injection hu with hu; subst hu; exact (blk_cell hg 10).trans rfl
     | 2, hu => injection hu with hu; subst hu; exact (blk_cell hg 11).trans rfl⟩
end Go.Proofs.Ytjlciehcddanpaa.A
end
section
set_option linter.unusedVariables false
set_option linter.unusedSimpArgs false
set_option linter.unusedSectionVars false
namespace Go.Proofs.Ytjlciehcddanpaa.A
open Go.RowKit Go.Shelf Go.Proofs.YtjlciehcddanpaaW.PrintWords Go.Proofs.YtjlciehcddanpaaW.PrintLast Go.Proofs.YtjlciehcddanpaaW.PrintMore Go.Proofs.Ytjlciehcddanpaa.PMixNames

set_option maxRecDepth 100000
theorem info55 : (Try.prog.info? 55).map (fun i => (i.zero, i.size, i.bytes)) = some (some (.agg #[.int .i64 0, .int .i64 0, .slice none 0 0]), 3, 40) := by kernel_rfl
theorem R_one {w : World} {B g x : Nat} (hb : w.heap[g]? = some (.cells #[.int .u32 (x : Int)] 23 (0, 0))) (hg : B ≤ g) : (nat .u32).R 23 w B (fun _ => True) (.slice (some ⟨g, 0, none⟩) 1 1) [x] := by
 refine Kd.R_of_own ⟨rfl, .inr ⟨g, 1, _, rfl, hg, hb, Nat.le_refl _, ?_, rfl, ?_⟩⟩ (fun _ _ => trivial)
 ·simp only [maxLen]; omega
 ·rfl
theorem make1 (W : World) : (Instr.makeSlice 53 (.int .i64 1) (.int .i64 1)).run Try.prog W = .ok (.slice (some ⟨W.heap.size, 0, none⟩) 1 1) (W.alloc (.cells #[.int .u32 0] 23)) := by kernel_rfl
theorem size31 : (Try.prog.info? 31).map (·.size) = some 1 := by kernel_rfl
/-- what made tells so far -/
def outs (F : Nat → Nat) (n : Nat) : List Nat := (List.range n).map F
theorem outs_succ (F : Nat → Nat) (n : Nat) : (outs F (n + 1)).map (fun s => [s]) = (outs F n).map (fun s => [s]) ++ [[F n]] := by unfold outs; rw [List.range_succ, List.map_append, List.map_append]; rfl
theorem gt_outs {F : Nat → Nat} {n i : Nat} (h : i < n) : gt (outs F n) i = F i := by
 rw [gt, List.getD_eq_getElem?_getD, outs, List.getElem?_map, List.getElem?_range h]; rfl
theorem Pc.of {B : Nat} {W : World} {A : Option Addr} {n c : Nat} {es : List (Nat × Nat × Hd)} {xs : List Nat} (H : PlsOwn B W (.slice A n c) es (xs.map fun s => [s])) (hd : ∀ k (h : k < es.length), (es[k]).1 = 1 ∧ (es[k]).2.1 = 1) (h0 : 0 < xs.length) (h1 : xs.length ≤ 1000) : n = xs.length ∧ Pc W A c xs := by
 obtain ⟨ap, c', e, hc, hC⟩ := H.C55 (by simpa using h0) (by simp; omega)
 have hl : es.length = xs.length := by rw [H.len, List.length_map]
 injection e with e1 e2 e3
 subst e1 e3
 rw [List.length_map] at e2 hc hC
 refine ⟨e2, hc, ?_⟩
 have e9 : plsL es (xs.map fun s => [s]) = xs.map pl := by
  refine List.ext_getElem (by simp [plsL, hl]) (fun k h1 h2 => ?_)
  have hk : k < es.length := by simpa [plsL] using h1
  have hx : k < xs.length := by omega
  obtain ⟨d1, d2⟩ := hd k hk
  simp only [plsL, List.getElem_map, List.getElem_range, List.getElem?_eq_getElem hk, Option.getD_some, d1, d2, List.getD_eq_getElem?_getD, List.getElem?_map, List.getElem?_eq_getElem hx, Option.map_some]
  rfl
 rw [e9] at hC
 exact hC
/-- a row of planes in the blocks from b on, below e -/
def Pf (b e : Nat) (w : World) (A : Option Addr) (c : Nat) (ss : List Nat) : Prop := e ≤ w.heap.size ∧ ∀ W2 : World, (∀ k, b ≤ k → k < e → W2.heap[k]? = w.heap[k]?) → Pc W2 A c ss
theorem Pf.pc {b e : Nat} {w : World} {A : Option Addr} {c : Nat} {ss : List Nat} (h : Pf b e w A c ss) : Pc w A c ss := h.2 w (fun _ _ _ => rfl)
theorem Pf.below {b e : Nat} {w w1 : World} {A : Option Addr} {c : Nat} {ss : List Nat} (h : Pf b e w A c ss) (hb : Below w.heap.size w w1) : Pf b e w1 A c ss := ⟨Nat.le_trans h.1 hb.size, fun W2 h2 => h.2 W2 (fun k k1 k2 => (h2 k k1 k2).trans (hb.block k (by have := h.1; omega)))⟩
theorem Pf.keep {b e g : Nat} {w w1 : World} {A : Option Addr} {c : Nat} {ss : List Nat} (h : Pf b e w A c ss) (hst : ∀ k, k ≠ g → w1.heap[k]? = w.heap[k]?) (hbl : ∀ B, B ≤ g → Below B w w1) (hg : g < b ∨ e ≤ g) : Pf b e w1 A c ss := ⟨Nat.le_trans h.1 (hbl 0 (Nat.zero_le _)).size, fun W2 h2 => h.2 W2 (fun k k1 k2 => (h2 k k1 k2).trans (hst k (by omega)))⟩
theorem Pf.mono {b e b' e' : Nat} {w : World} {A : Option Addr} {c : Nat} {ss : List Nat} (h : Pf b e w A c ss) (h1 : b' ≤ b) (h2 : e ≤ e') (h3 : e' ≤ w.heap.size) : Pf b' e' w A c ss := ⟨h3, fun W2 hh => h.2 W2 (fun k k1 k2 => hh k (by omega) (by omega))⟩
theorem Pf.of {B : Nat} {W : World} {A : Option Addr} {n c : Nat} {es : List (Nat × Nat × Hd)} {xs : List Nat} (H : PlsOwn B W (.slice A n c) es (xs.map fun s => [s])) (hd : ∀ k (h : k < es.length), (es[k]).1 = 1 ∧ (es[k]).2.1 = 1) (h0 : 0 < xs.length) (h1 : xs.length ≤ 1000) : n = xs.length ∧ Pf B W.heap.size W A c xs :=
 ⟨(Pc.of H hd h0 h1).1, Nat.le_refl _, fun W2 h => (Pc.of (H.move (fun k hk => h k (H.row_lt hk).1 (H.row_lt hk).2.1) (fun i hi k hk => h k (H.pl_lt hi hk).1 (H.pl_lt hi hk).2.1)) hd h0 h1).2⟩
set_option maxHeartbeats 8000000 in
theorem made_calls (sp : Int) (A : Option Addr) (c : Nat) (ss : List Nat) (F : Nat → Nat) (f : FuncId) (fn : Func) (caps : Array Value) (hf : Try.prog.funcs[f]? = some fn) (hname : (fn.name == "runtime.NumGoroutine") = false) (hbody : fn.body.isSome = true) (h0 : 0 < ss.length) (h8 : ss.length ≤ 100) (w : World) (hP : Pc w A c ss) (hC : ∀ (W : World) (k : Nat), k < ss.length → Below w.heap.size w W → Calls Try.prog f (#[.int .i64 (k : Int), .int .i64 0] ++ caps) W fun e w' => e = .returned (.int .u32 ((F k : Nat) : Int)) ∧ Below W.heap.size W w') :
    Calls Try.prog 47 #[.agg #[.int .i64 sp, .slice A ss.length c], .func (.func f) #[] caps] w fun e w' => ∃ A' c', e = .returned (.agg #[.int .i64 sp, .slice A' ss.length c']) ∧ Pf w.heap.size w'.heap.size w' A' c' (outs F ss.length) ∧ Below w.heap.size w w' := by
 have hu33 := Try.underlying33
 have hu55 := Try.underlying55
 have hmk := make1
 have HF : Aside0 (Try.prog.funcs[f]? = some fn ∧ (fn.name == "runtime.NumGoroutine") = false ∧ fn.body.isSome = true) := ⟨⟨hf, hname, hbody⟩⟩
 have HP : Aside0 (∀ W, Below w.heap.size w W → Pc W A c ss) := ⟨fun W hb => hP.below hb⟩
 have HC := Aside0.mk hC
 obtain ⟨n, hn⟩ : ∃ n, ss.length = n := ⟨_, rfl⟩
 have HN := Aside0.mk hn
 rw [hn] at h0 h8 ⊢
 have H8 : Aside0 (0 < n ∧ n ≤ 100) := ⟨⟨h0, h8⟩⟩
 have B_0 : Aside0 (Below w.heap.size w w) := ⟨Below.refl _ _⟩
 clear hf hname hbody hP hC hn h0 h8
 go_enter Try.func47, Try.ntmps47
 go_wp2_with (first | ((with_reducible refine gate_dst (N := 2) rfl ?_); refine box_event ?hg (N := 2) ?hd (cs := #[.int .i64 sp, .slice A n c]) (t := 33) ?hr ?_; (case hd => rfl); (case hg => rfl); (case hr => first | (go_simp; done) | (go_simp; rfl)); intro g2 hg_ w1 hm_ hb_; have GP := Aside0.mk (show w.heap.size ≤ g2 by rw [hg_]; exact B_0.out.size); have B_1 := Aside0.mk (below_step B_0.out hb_); have P_1 := Aside0.mk (hm_); have cP0 := (blk_cell P_1.out 0).trans rfl; have cP1 := (blk_cell P_1.out 1).trans rfl; clear hm_ hb_ hg_) | ((with_reducible refine gate_dst (N := 4) rfl ?_); refine box_event ?hg (N := 4) ?hd (cs := #[.int .i64 0, .slice none 0 0]) (t := 33) ?hr ?_; (case hd => rfl); (case hg => rfl); (case hr => first | (go_simp; done) | (go_simp; rfl)); intro g4 hg_ w2 hm_ hb_; have NEPO := Aside0.mk (show g2 ≠ g4 by rw [hg_]; have := blk_lt P_1.out; omega); have GO := Aside0.mk (show w.heap.size ≤ g4 by rw [hg_]; exact B_1.out.size); clear cP0 cP1; have B_2 := Aside0.mk (below_step B_1.out hb_); have P_2 := Aside0.mk (blk_below P_1.out hb_); clear P_1; have O_2 := Aside0.mk (hm_); have cP0 := (blk_cell P_2.out 0).trans rfl; have cP1 := (blk_cell P_2.out 1).trans rfl; clear hm_ hb_ hg_) | ((with_reducible refine gate_dst (N := 5) rfl ?_); refine box_event ?hg (N := 5) ?hd (cs := #[.int .i64 0, .slice none 0 0]) (t := 33) ?hr ?_; (case hd => rfl); (case hg => rfl); (case hr => first | (go_simp; done) | (go_simp; rfl)); intro g5 hg_ w3 hm_ hb_; have NEPU := Aside0.mk (show g2 ≠ g5 by rw [hg_]; have := blk_lt P_2.out; omega); have NEOU := Aside0.mk (show g4 ≠ g5 by rw [hg_]; have := blk_lt O_2.out; omega); have GU := Aside0.mk (show w.heap.size ≤ g5 by rw [hg_]; exact B_2.out.size); clear cP0 cP1; have B_3 := Aside0.mk (below_step B_2.out hb_); have P_3 := Aside0.mk (blk_below P_2.out hb_); have O_3 := Aside0.mk (blk_below O_2.out hb_); clear P_2 O_2; have U_3 := Aside0.mk (hm_); have cP0 := (blk_cell P_3.out 0).trans rfl; have cP1 := (blk_cell P_3.out 1).trans rfl; clear hm_ hb_ hg_) | ((with_reducible refine gate_store (p := 5) rfl ?_); refine store_event rfl rfl rfl g5 #[.int .i64 sp, .slice none 0 0] _ 33 rfl rfl U_3.out size33 rfl (by simp [Value.oneCell']) ?_; intro w4 hm_ hst_ hbl_; clear cP0 cP1; have B_4 := Aside0.mk (B_3.out.trans (hbl_ _ GU.out)); have P_4 := Aside0.mk ((hst_ g2 NEPU.out).trans P_3.out); have O_4 := Aside0.mk ((hst_ g4 NEOU.out).trans O_3.out); have U_4 := Aside0.mk (hm_); clear P_3 O_3 U_3 hm_ hst_ hbl_; have cP0 := (blk_cell P_4.out 0).trans rfl; have cP1 := (blk_cell P_4.out 1).trans rfl))
 clear cP0 cP1 B_0
 have HBE := B_4
 have HO := O_4
 have HPP := P_4
 clear B_4 O_4 P_4
 go_loopg [16] n (fun kx s16 wr => ∃ (i : Nat) (Av : Option Addr) (nv cv : Nat) (es : List (Nat × Nat × Hd)), s16 = .int .i64 (i : Int) ∧ i ≤ n ∧ n - i ≤ kx ∧ Aside0 (Below w.heap.size w wr) ∧ Aside0 (wr.heap[g2]? = some (.cells #[.int .i64 sp, .slice A n c] 33 (0, 0))) ∧ Aside0 (wr.heap[g4]? = some (.cells #[.int .i64 0, .slice none 0 0] 33 (0, 0))) ∧ Aside0 (wr.heap[g5]? = some (.cells #[.int .i64 sp, .slice Av nv cv] 33 (0, 0))) ∧ Aside0 (PlsOwn w.heap.size wr (.slice Av nv cv) es ((outs F i).map fun s => [s])) ∧ Aside0 (∀ k (h : k < es.length), (es[k]).1 = 1 ∧ (es[k]).2.1 = 1))
 case atStart => exact ⟨0, none, 0, 0, [], rfl, Nat.zero_le _, by omega, HBE, HPP, HO, U_4, ⟨PlsOwn.nil _ _⟩, ⟨fun k h => absurd h (Nat.not_lt_zero _)⟩⟩
 case round =>
  obtain ⟨i, Av, nv, cv, es, rfl, i1, i2, HB, HPw, HOw, HUw, HV, HD⟩ := hrel
  have h8 := H8.out
  by_cases hin : i < n
  case neg =>
   obtain rfl : i = n := by omega
   have dd : decide ((i : Int) < (i : Int)) = false := decide_eq_false (by omega)
   have P9 := HPw
   have O9 := HOw
   have u0 := (blk_cell HUw.out 0).trans rfl
   have u1 := (blk_cell HUw.out 1).trans rfl
   clear hin h8
   go_wp2_with (((with_reducible refine gate_store (p := 4) rfl ?_); refine store_event rfl rfl rfl g4 #[.int .i64 sp, .slice Av nv cv] _ 33 rfl rfl O9.out size33 rfl (by simp [Value.oneCell']) ?_; intro w12 hm_ hst_ hbl_; have X12 := Aside0.mk hm_; have B12 := Aside0.mk (HB.out.trans (hbl_ _ GO.out)); have V12 := Aside0.mk (HV.out.keep hst_ (HV.out.ne_row O9.out (by decide)) (HV.out.ne_pl O9.out (by decide))); clear hm_ hst_ hbl_))
   obtain ⟨e9, hP9⟩ := Pf.of V12.out HD.out (by simp [outs]; exact H8.out.1) (by simp [outs]; exact Nat.le_trans H8.out.2 (by decide))
   have e8 : nv = i := by rw [e9]; simp [outs]
   subst e8
   refine bodyPost_ret (results_cell_row rfl _ _ g4 33 _ (0, 0) _ rfl X12.out Try.underlying33 rfl (by kernel_rfl)) rfl ?_
   exact ⟨Av, cv, rfl, hP9, B12.out⟩
  case pos =>
   have HIN := Aside0.mk hin
   have HIS : Aside0 (i < ss.length) := ⟨by rw [HN.out]; exact hin⟩
   have e1i : decide ((0 : Int) ≤ (i : Int)) = true := decide_eq_true (by omega)
   have e2i : decide ((i : Int) < (n : Int)) = true := decide_eq_true (by omega)
   have e5i : ((0 : Int) ≤ (i : Int)) = True := eq_true (by omega)
   have e6i : ((i : Int) < (n : Int)) = True := eq_true (by omega)
   have e7i : (i < n) = True := eq_true (by omega)
   have wi : IntKind.i64.wrap ((i : Int) + 1) = ((i + 1 : Nat) : Int) := by rw [show IntKind.i64.wrap ((i : Int) + 1) = wrap64 ((i : Int) + 1) from i64_w _, w64 (by omega) (by omega)]; omega
   obtain ⟨ad, A2, c2, rfl, k0, k1, k2, l2, hs⟩ := (HP.out wr HB.out).at_ i HIS.out
   have HLE : Aside0 ((es.length + 1) * 40 ≤ 140737488355328) := ⟨by have h := HV.out.len; rw [List.length_map] at h; unfold outs at h; rw [List.length_map, List.length_range] at h; rw [h]; omega⟩
   clear hs l2 hin h8
   have B_0 : Aside0 (Below wr.heap.size wr wr) := ⟨Below.refl _ _⟩
   have cp0 := (blk_cell HPw.out 0).trans rfl
   generalize wr = W0 at *
   go_wp2_with (first | ((with_reducible refine gate_dst (N := 7) rfl ?_); refine box_event ?hg (N := 7) ?hd (cs := #[.int .i64 0, .int .i64 0, .slice none 0 0]) (t := 55) ?hr ?_; (case hd => rfl); (case hg => rfl); (case hr => first | (go_simp; done) | (go_simp; rfl)); intro g7 hg_ w1 hm_ hb_; have GQ := Aside0.mk (show W0.heap.size ≤ g7 by rw [hg_]; exact B_0.out.size); have B_1 := Aside0.mk (below_step B_0.out hb_); have Q_1 := Aside0.mk (hm_); clear hm_ hb_ hg_) | ((with_reducible refine gate_store (p := 7) rfl ?_); refine store_event rfl rfl rfl g7 #[.int .i64 1, .int .i64 1, .slice (some A2) 1 c2] _ 55 rfl rfl Q_1.out size55 rfl (by simp [Value.oneCell']) ?_; intro w2 hm_ hst_ hbl_; have B_2 := Aside0.mk (B_1.out.trans (hbl_ _ GQ.out)); have Q_2 := Aside0.mk (hm_); clear Q_1 hm_ hst_ hbl_))
   clear k0 k1 k2 cp0
   have B_3 : Aside0 (Below W0.heap.size W0 w2.drew) := ⟨below_drew B_2.out⟩
   have Q_3 := Aside0.mk (blk_drew Q_2.out)
   clear B_2 Q_2
   refine start_ (n := 11) (S := fun w' => w'.cell? ⟨g7, 0, none⟩ = some (.int .i64 1) ∧ w'.cell? ⟨g7, 1, none⟩ = some (.int .i64 1) ∧ w'.cell? ⟨g7, 2, none⟩ = some (.slice (some A2) 1 c2)) (ds := [10]) #[ff_,ff_,ff_,ff_,ff_,ff_,ff_,ff_,ff_,ff_,ff_] (by kernel_rfl) rfl rfl ⟨(blk_cell Q_3.out 0).trans rfl, (blk_cell Q_3.out 1).trans rfl, (blk_cell Q_3.out 2).trans rfl⟩ (fun hHeld => ?_)
   generalize w2.drew = w3 at *
   refine pure_ (i := 0) (N := some 21) (v := ?_) (a' := ?_) #[tt_,ff_,ff_,ff_,ff_,ff_,ff_,ff_,ff_,ff_,ff_] rfl rfl (by kernel_rfl) (fun _ _ _ h => h) (Or.inl ⟨by rfl, ?_⟩) ?_ ?_
   rotate_left
   ·intro w'
    go_simp
    with_reducible rfl
   rotate_left
   ·simp only [Act.put, List.setIfInBounds_toArray, List.set_cons_zero, List.set_cons_succ, i64_w, i32_w]
    rfl
   refine pure_ (i := 2) (N := some 23) (v := ?_) (a' := ?_) #[tt_,ff_,tt_,ff_,ff_,ff_,ff_,ff_,ff_,ff_,ff_] rfl rfl (by kernel_rfl) (fun _ _ _ h => h) (Or.inl ⟨by rfl, ?_⟩) ?_ ?_
   rotate_left
   ·intro w'
    go_simp
    with_reducible rfl
   rotate_left
   ·simp only [Act.put, List.setIfInBounds_toArray, List.set_cons_zero, List.set_cons_succ, i64_w, i32_w]
    rfl
   refine pure_ (i := 4) (N := some 25) (v := ?_) (a' := ?_) #[tt_,ff_,tt_,ff_,tt_,ff_,ff_,ff_,ff_,ff_,ff_] rfl rfl (by kernel_rfl) (fun _ _ _ h => h) (Or.inl ⟨by rfl, ?_⟩) ?_ ?_
   rotate_left
   ·intro w'
    go_simp
    with_reducible rfl
   rotate_left
   ·simp only [Act.put, List.setIfInBounds_toArray, List.set_cons_zero, List.set_cons_succ, i64_w, i32_w]
    rfl
   refine take_ (i := 1) (N := some 22) (v := ?_) (a' := ?_) #[tt_,tt_,tt_,ff_,tt_,ff_,ff_,ff_,ff_,ff_,ff_] rfl rfl (by kernel_rfl) (fun _ _ _ h => h) (Or.inl ⟨by rfl, ?_⟩) hHeld ?_ ?_
   rotate_left
   ·rintro w' ⟨s0, s1, s2⟩
    go_simp
    with_reducible rfl
   rotate_left
   ·simp only [Act.put, List.setIfInBounds_toArray, List.set_cons_zero, List.set_cons_succ, i64_w, i32_w]
    rfl
   refine take_ (i := 3) (N := some 24) (v := ?_) (a' := ?_) #[tt_,tt_,tt_,tt_,tt_,ff_,ff_,ff_,ff_,ff_,ff_] rfl rfl (by kernel_rfl) (fun _ _ _ h => h) (Or.inl ⟨by rfl, ?_⟩) hHeld ?_ ?_
   rotate_left
   ·rintro w' ⟨s0, s1, s2⟩
    go_simp
    with_reducible rfl
   rotate_left
   ·simp only [Act.put, List.setIfInBounds_toArray, List.set_cons_zero, List.set_cons_succ, i64_w, i32_w]
    rfl
   refine take_ (i := 5) (N := some 26) (v := ?_) (a' := ?_) #[tt_,tt_,tt_,tt_,tt_,tt_,ff_,ff_,ff_,ff_,ff_] rfl rfl (by kernel_rfl) (fun _ _ _ h => h) (Or.inl ⟨by rfl, ?_⟩) hHeld ?_ ?_
   rotate_left
   ·rintro w' ⟨s0, s1, s2⟩
    go_simp
    with_reducible rfl
   rotate_left
   ·simp only [Act.put, List.setIfInBounds_toArray, List.set_cons_zero, List.set_cons_succ, i64_w, i32_w]
    rfl
   refine pure_ (i := 6) (N := some 27) (v := ?_) (a' := ?_) #[tt_,tt_,tt_,tt_,tt_,tt_,tt_,ff_,ff_,ff_,ff_] rfl rfl (by kernel_rfl) (fun _ _ _ h => h) (Or.inl ⟨by rfl, ?_⟩) ?_ ?_
   rotate_left
   ·intro w'
    go_simp
    with_reducible rfl
   rotate_left
   ·simp only [Act.put, List.setIfInBounds_toArray, List.set_cons_zero, List.set_cons_succ, i64_w, i32_w]
    rfl
   refine join_ (σ := Nat × Nat) 1 #[tt_,tt_,tt_,tt_,tt_,tt_,tt_,tt_,tt_,tt_,ff_] (fun q_ => [(28, .slice (some ⟨q_.1, 0, none⟩) 1 1), (29, .agg #[.int .i64 1, .int .i64 1, .slice (some ⟨q_.1, 0, none⟩) 1 1]), (8, .pointer (some ⟨q_.2, 0, none⟩))]) (fun q_ w' => w'.heap[q_.1]? = some (.cells #[.int .u32 0] 23 (0, 0)) ∧ w'.heap[q_.2]? = some (.cells #[.int .i64 0, .int .i64 0, .slice none 0 0] 55 (0, 0)) ∧ q_.1 ≠ q_.2 ∧ W0.heap.size ≤ q_.1 ∧ W0.heap.size ≤ q_.2 ∧ Below W0.heap.size W0 w' ∧ w'.heap[g7]? = some (.cells #[.int .i64 1, .int .i64 1, .slice (some A2) 1 c2] 55 (0, 0))) ?_ ?_
   rotate_left
   ·intro hCont
    refine two_ (i := 7) (j := 9) (Ni := some 28) (Nj := some 8) #[tt_,tt_,tt_,tt_,tt_,tt_,tt_,tt_,ff_,ff_,ff_] #[tt_,tt_,tt_,tt_,tt_,tt_,tt_,ff_,ff_,tt_,ff_] rfl rfl rfl rfl (by kernel_rfl) (by decide) (by decide) (fun K hK => ?_) (fun K hK => ?_)
    ·skip
     refine row_step (by rfl) rfl (cs := #[.int .u32 0]) (t := 23) (len := 1) (by first | (go_simp; done) | (go_simp; rfl)) ?_
     intro gS hg_ w3_7 hm_ hb_
     have GS := Aside0.mk (show W0.heap.size ≤ gS by rw [hg_]; exact B_3.out.size)
     have S_3_7 := Aside0.mk (hm_)
     have B_3_7 := Aside0.mk (below_step B_3.out hb_)
     have Q_3_7 := Aside0.mk (blk_below Q_3.out hb_)
     clear hm_ hb_ hg_
     refine hK.out _ _ ⟨(blk_cell Q_3_7.out 0).trans rfl, (blk_cell Q_3_7.out 1).trans rfl, (blk_cell Q_3_7.out 2).trans rfl⟩ (fun hHeld => ?_)
     clear hK K
     refine norm_ (a' := ?_) ?_ ?_
     rotate_left
     ·show Act.put _ (some 28) _ = _
      simp only [Act.put, List.setIfInBounds_toArray, List.set_cons_zero, List.set_cons_succ, i64_w, i32_w]
      rfl
     refine pure_ (i := 8) (N := some 29) (v := ?_) (a' := ?_) #[tt_,tt_,tt_,tt_,tt_,tt_,tt_,tt_,tt_,ff_,ff_] rfl rfl (by kernel_rfl) (fun _ _ _ h => h) (Or.inl ⟨by rfl, ?_⟩) ?_ ?_
     rotate_left
     ·intro w'
      go_simp
      with_reducible rfl
     rotate_left
     ·simp only [Act.put, List.setIfInBounds_toArray, List.set_cons_zero, List.set_cons_succ, i64_w, i32_w]
      rfl
     refine one_ (i := 9) (N := some 8) #[tt_,tt_,tt_,tt_,tt_,tt_,tt_,tt_,tt_,tt_,ff_] rfl rfl (by kernel_rfl) (by decide) (fun K hK => ?_)
     refine box_step (by rfl) rfl (cs := #[.int .i64 0, .int .i64 0, .slice none 0 0]) (t := 55) (by first | (go_simp; done) | (go_simp; rfl)) ?_
     intro g8 hg_ w3_7_9 hm_ hb_
     have GT := Aside0.mk (show W0.heap.size ≤ g8 by rw [hg_]; exact B_3_7.out.size)
     have T_3_7_9 := Aside0.mk (hm_)
     have B_3_7_9 := Aside0.mk (below_step B_3_7.out hb_)
     have Q_3_7_9 := Aside0.mk (blk_below Q_3_7.out hb_)
     have NEST := Aside0.mk (show gS ≠ g8 by rw [hg_]; have := blk_lt S_3_7.out; omega)
     have S_3_7_9 := Aside0.mk (blk_below S_3_7.out hb_)
     clear hm_ hb_ hg_
     refine hK.out _ _ ⟨(blk_cell Q_3_7_9.out 0).trans rfl, (blk_cell Q_3_7_9.out 1).trans rfl, (blk_cell Q_3_7_9.out 2).trans rfl⟩ (fun hHeld => ?_)
     clear hK K
     refine norm_ (a' := ?_) ?_ ?_
     rotate_left
     ·show Act.put _ (some 8) _ = _
      simp only [Act.put, List.setIfInBounds_toArray, List.set_cons_zero, List.set_cons_succ, i64_w, i32_w]
      rfl
     exact norm_ (by rfl) (hCont (gS, g8) _ ⟨S_3_7_9.out, T_3_7_9.out, NEST.out, GS.out, GT.out, B_3_7_9.out, Q_3_7_9.out⟩)
    ·skip
     refine box_step (by rfl) rfl (cs := #[.int .i64 0, .int .i64 0, .slice none 0 0]) (t := 55) (by first | (go_simp; done) | (go_simp; rfl)) ?_
     intro g8 hg_ w3_9 hm_ hb_
     have GT := Aside0.mk (show W0.heap.size ≤ g8 by rw [hg_]; exact B_3.out.size)
     have T_3_9 := Aside0.mk (hm_)
     have B_3_9 := Aside0.mk (below_step B_3.out hb_)
     have Q_3_9 := Aside0.mk (blk_below Q_3.out hb_)
     clear hm_ hb_ hg_
     refine hK.out _ _ ⟨(blk_cell Q_3_9.out 0).trans rfl, (blk_cell Q_3_9.out 1).trans rfl, (blk_cell Q_3_9.out 2).trans rfl⟩ (fun hHeld => ?_)
     clear hK K
     refine norm_ (a' := ?_) ?_ ?_
     rotate_left
     ·show Act.put _ (some 8) _ = _
      simp only [Act.put, List.setIfInBounds_toArray, List.set_cons_zero, List.set_cons_succ, i64_w, i32_w]
      rfl
     refine one_ (i := 7) (N := some 28) #[tt_,tt_,tt_,tt_,tt_,tt_,tt_,tt_,ff_,tt_,ff_] rfl rfl (by kernel_rfl) (by decide) (fun K hK => ?_)
     refine row_step (by rfl) rfl (cs := #[.int .u32 0]) (t := 23) (len := 1) (by first | (go_simp; done) | (go_simp; rfl)) ?_
     intro gS hg_ w3_9_7 hm_ hb_
     have GS := Aside0.mk (show W0.heap.size ≤ gS by rw [hg_]; exact B_3_9.out.size)
     have S_3_9_7 := Aside0.mk (hm_)
     have B_3_9_7 := Aside0.mk (below_step B_3_9.out hb_)
     have Q_3_9_7 := Aside0.mk (blk_below Q_3_9.out hb_)
     have NEST := Aside0.mk (show gS ≠ g8 by rw [hg_]; have := blk_lt T_3_9.out; omega)
     have T_3_9_7 := Aside0.mk (blk_below T_3_9.out hb_)
     clear hm_ hb_ hg_
     refine hK.out _ _ ⟨(blk_cell Q_3_9_7.out 0).trans rfl, (blk_cell Q_3_9_7.out 1).trans rfl, (blk_cell Q_3_9_7.out 2).trans rfl⟩ (fun hHeld => ?_)
     clear hK K
     refine norm_ (a' := ?_) ?_ ?_
     rotate_left
     ·show Act.put _ (some 28) _ = _
      simp only [Act.put, List.setIfInBounds_toArray, List.set_cons_zero, List.set_cons_succ, i64_w, i32_w]
      rfl
     refine pure_ (i := 8) (N := some 29) (v := ?_) (a' := ?_) #[tt_,tt_,tt_,tt_,tt_,tt_,tt_,tt_,tt_,tt_,ff_] rfl rfl (by kernel_rfl) (fun _ _ _ h => h) (Or.inl ⟨by rfl, ?_⟩) ?_ ?_
     rotate_left
     ·intro w'
      go_simp
      with_reducible rfl
     rotate_left
     ·simp only [Act.put, List.setIfInBounds_toArray, List.set_cons_zero, List.set_cons_succ, i64_w, i32_w]
      rfl
     exact norm_ (by rfl) (hCont (gS, g8) _ ⟨S_3_9_7.out, T_3_9_7.out, NEST.out, GS.out, GT.out, B_3_9_7.out, Q_3_9_7.out⟩)
   rintro ⟨gS, g8⟩ w4 ⟨h1, h2, h3, h4, h5, h6, h7⟩
   simp only at h1 h2 h3 h4 h5 h6 h7
   have S_4 := Aside0.mk (h1)
   have T_4 := Aside0.mk (h2)
   have NEST := Aside0.mk (h3)
   have NEQT := Aside0.mk (show g7 ≠ g8 by intro e; rw [e, h2] at h7; simp at h7)
   have GS := Aside0.mk (h4)
   have GT := Aside0.mk (h5)
   have B_4 := Aside0.mk (h6)
   have Q_4 := Aside0.mk (h7)
   have hHeld : w4.cell? ⟨g7, 0, none⟩ = some (.int .i64 1) ∧ w4.cell? ⟨g7, 1, none⟩ = some (.int .i64 1) ∧ w4.cell? ⟨g7, 2, none⟩ = some (.slice (some A2) 1 c2) := ⟨(blk_cell Q_4.out 0).trans rfl, (blk_cell Q_4.out 1).trans rfl, (blk_cell Q_4.out 2).trans rfl⟩
   clear h1 h2 h3 h4 h5 h6 h7
   refine norm_ (a' := ?_) ?_ ?_
   rotate_left
   ·simp only [YtjlciehcddanpaaW.PrintLast.putAll, Act.put, List.setIfInBounds_toArray, List.set_cons_zero, List.set_cons_succ]
    rfl
   refine last_ (i := 10) (N := none) #[tt_,tt_,tt_,tt_,tt_,tt_,tt_,tt_,tt_,tt_,tt_] rfl rfl (by kernel_rfl) (by decide) (fun K hK => ?_)
   refine store_step (by rfl) rfl rfl g8 #[.int .i64 1, .int .i64 1, .slice (some ⟨gS, 0, none⟩) 1 1] _ _ rfl rfl T_4.out size55 rfl (by simp [Value.oneCell']) ?_
   intro w5 hm_ hst_ hbl_
   have B_5 := Aside0.mk (B_4.out.trans (hbl_ _ GT.out))
   have Q_5 := Aside0.mk ((hst_ g7 NEQT.out).trans Q_4.out)
   have S_5 := Aside0.mk ((hst_ gS NEST.out).trans S_4.out)
   have T_5 := Aside0.mk (hm_)
   clear Q_4 S_4 T_4 hm_ hst_ hbl_
   refine hK.out _ _ ?_
   clear hK K
   refine done_ (by kernel_rfl) ?_
   have q2 := (blk_cell Q_5.out 2).trans rfl
   go_wp2
   clear q2
   go_loopg [33] 1 (fun kx s33 wr => ∃ (j x : Nat), s33 = .int .i64 (j : Int) ∧ j ≤ 1 ∧ 1 - j ≤ kx ∧ Aside0 (Below W0.heap.size W0 wr) ∧ Aside0 (wr.heap[gS]? = some (.cells #[.int .u32 (x : Int)] 23 (0, 0))) ∧ Aside0 (wr.heap[g8]? = some (.cells #[.int .i64 1, .int .i64 1, .slice (some ⟨gS, 0, none⟩) 1 1] 55 (0, 0))) ∧ Aside0 (j = 1 → x = F i))
   case atStart => exact ⟨0, 0, rfl, Nat.zero_le _, Nat.le_refl _, B_5, S_5, T_5, ⟨fun h => absurd h (by decide)⟩⟩
   case round =>
    clear B_5 S_5 T_5 Q_5
    obtain ⟨j, x, rfl, j1, j2, B_0, S_0, T_0, HX⟩ := hrel
    by_cases hj : j = 0
    case pos =>
     subst hj
     clear HX j1
     generalize wr = V0 at *
     go_wp2
     have B_1 : Aside0 (Below W0.heap.size W0 V0.drew) := ⟨below_drew B_0.out⟩
     have S_1 := Aside0.mk (blk_drew S_0.out)
     have T_1 := Aside0.mk (blk_drew T_0.out)
     clear B_0 S_0 T_0
     refine start_ (n := 9) (S := fun w' => w'.cell? ⟨g8, 0, none⟩ = some (.int .i64 1) ∧ w'.cell? ⟨g8, 1, none⟩ = some (.int .i64 1) ∧ w'.cell? ⟨g8, 2, none⟩ = some (.slice (some ⟨gS, 0, none⟩) 1 1)) (ds := [8]) #[ff_,ff_,ff_,ff_,ff_,ff_,ff_,ff_,ff_] (by kernel_rfl) rfl rfl ⟨(blk_cell T_1.out 0).trans rfl, (blk_cell T_1.out 1).trans rfl, (blk_cell T_1.out 2).trans rfl⟩ (fun hHeld => ?_)
     generalize V0.drew = w1 at *
     refine pure_ (i := 0) (N := some 36) (v := ?_) (a' := ?_) #[tt_,ff_,ff_,ff_,ff_,ff_,ff_,ff_,ff_] rfl rfl (by kernel_rfl) (fun _ _ _ h => h) (Or.inl ⟨by rfl, ?_⟩) ?_ ?_
     rotate_left
     ·intro w'
      go_simp
      with_reducible rfl
     rotate_left
     ·simp only [Act.put, List.setIfInBounds_toArray, List.set_cons_zero, List.set_cons_succ, i64_w, i32_w]
      rfl
     refine pure_ (i := 2) (N := some 38) (v := ?_) (a' := ?_) #[tt_,ff_,tt_,ff_,ff_,ff_,ff_,ff_,ff_] rfl rfl (by kernel_rfl) (fun _ _ _ h => h) (Or.inl ⟨by rfl, ?_⟩) ?_ ?_
     rotate_left
     ·intro w'
      go_simp
      with_reducible rfl
     rotate_left
     ·simp only [Act.put, List.setIfInBounds_toArray, List.set_cons_zero, List.set_cons_succ, i64_w, i32_w]
      rfl
     refine pure_ (i := 3) (N := some 39) (v := ?_) (a' := ?_) #[tt_,ff_,tt_,tt_,ff_,ff_,ff_,ff_,ff_] rfl rfl (by kernel_rfl) (fun _ _ _ h => h) (Or.inl ⟨by rfl, ?_⟩) ?_ ?_
     rotate_left
     ·intro w'
      go_simp
      with_reducible rfl
     rotate_left
     ·simp only [Act.put, List.setIfInBounds_toArray, List.set_cons_zero, List.set_cons_succ, i64_w, i32_w]
      rfl
     refine pure_ (i := 4) (N := some 40) (v := ?_) (a' := ?_) #[tt_,ff_,tt_,tt_,tt_,ff_,ff_,ff_,ff_] rfl rfl (by kernel_rfl) (fun _ _ _ h => h) (Or.inl ⟨by rfl, ?_⟩) ?_ ?_
     rotate_left
     ·intro w'
      go_simp
      with_reducible rfl
     rotate_left
     ·simp only [Act.put, List.setIfInBounds_toArray, List.set_cons_zero, List.set_cons_succ, i64_w, i32_w]
      rfl
     refine pure_ (i := 5) (N := some 41) (v := ?_) (a' := ?_) #[tt_,ff_,tt_,tt_,tt_,tt_,ff_,ff_,ff_] rfl rfl (by kernel_rfl) (fun _ _ _ h => h) (Or.inl ⟨by rfl, ?_⟩) ?_ ?_
     rotate_left
     ·intro w'
      go_simp
      with_reducible rfl
     rotate_left
     ·simp only [Act.put, List.setIfInBounds_toArray, List.set_cons_zero, List.set_cons_succ, i64_w, i32_w]
      rfl
     refine take_ (i := 1) (N := some 37) (v := ?_) (a' := ?_) #[tt_,tt_,tt_,tt_,tt_,tt_,ff_,ff_,ff_] rfl rfl (by kernel_rfl) (fun _ _ _ h => h) (Or.inl ⟨by rfl, ?_⟩) hHeld ?_ ?_
     rotate_left
     ·rintro w' ⟨s0, s1, s2⟩
      go_simp
      with_reducible rfl
     rotate_left
     ·simp only [Act.put, List.setIfInBounds_toArray, List.set_cons_zero, List.set_cons_succ, i64_w, i32_w]
      rfl
     refine one_ (i := 6) (N := some 42) #[tt_,tt_,tt_,tt_,tt_,tt_,tt_,ff_,ff_] rfl rfl (by kernel_rfl) (by decide) (fun K hK => ?_)
     refine goesV_ HF.out.1 HF.out.2.1 HF.out.2.2 (caps := caps) #[.int .i64 (i : Int), .int .i64 0] (by rfl) rfl rfl (by rfl) (by (try simp only [List.map_toArray, List.map_cons, List.map_nil]); rfl) ?_
     refine (HC.out _ i HIS.out (below_step HB.out B_1.out)).mono ?_
     rintro e w2 ⟨rfl, hb⟩
     refine ⟨_, rfl, ?_⟩
     have B_2 := Aside0.mk (below_step B_1.out hb)
     have S_2 := Aside0.mk (blk_below S_1.out hb)
     have T_2 := Aside0.mk (blk_below T_1.out hb)
     clear S_1 T_1
     clear hb
     refine hK.out _ _ ⟨(blk_cell T_2.out 0).trans rfl, (blk_cell T_2.out 1).trans rfl, (blk_cell T_2.out 2).trans rfl⟩ (fun hHeld => ?_)
     clear hK K
     refine norm_ (a' := ?_) ?_ ?_
     rotate_left
     ·show Act.put _ (some 42) _ = _
      simp only [Act.put, List.setIfInBounds_toArray, List.set_cons_zero, List.set_cons_succ, i64_w, i32_w]
      rfl
     refine pure_ (i := 7) (N := some 43) (v := ?_) (a' := ?_) #[tt_,tt_,tt_,tt_,tt_,tt_,tt_,tt_,ff_] rfl rfl (by kernel_rfl) (fun _ _ _ h => h) (Or.inl ⟨by rfl, ?_⟩) ?_ ?_
     rotate_left
     ·intro w'
      go_simp
      with_reducible rfl
     rotate_left
     ·simp only [Act.put, List.setIfInBounds_toArray, List.set_cons_zero, List.set_cons_succ, i64_w, i32_w]
      rfl
     refine last_ (i := 8) (N := none) #[tt_,tt_,tt_,tt_,tt_,tt_,tt_,tt_,tt_] rfl rfl (by kernel_rfl) (by decide) (fun K hK => ?_)
     refine storec_step (by rfl) rfl rfl gS 0 (.int .u32 ((F i : Nat) : Int)) _ _ (by rfl) (by rfl) rfl S_2.out size23 (by simp) rfl ?_
     intro w3 hm_ hst_ hbl_
     have B_3 := Aside0.mk (B_2.out.trans (hbl_ _ GS.out))
     have T_3 := Aside0.mk ((hst_ g8 NEST.out.symm).trans T_2.out)
     have S_3 := Aside0.mk (hm_)
     clear S_2 T_2 hm_ hst_ hbl_
     refine hK.out _ _ ?_
     clear hK K
     refine done_ (by kernel_rfl) ?_
     go_wp2
     go_roundg 0
     case measure => omega
     case rel => exact ⟨1, F i, by first | rfl | (congr 1; omega), Nat.le_refl _, by omega, B_3, S_3, T_3, ⟨fun _ => rfl⟩⟩
    case neg =>
     obtain rfl : j = 1 := by omega
     clear hj j1 j2
     obtain rfl := HX.out rfl
     clear HX
     have P9 := Aside0.mk (blk_below HPw.out B_0.out)
     have O9 := Aside0.mk (blk_below HOw.out B_0.out)
     have U9 := Aside0.mk (blk_below HUw.out B_0.out)
     have V9 := Aside0.mk (HV.out.below B_0.out)
     have BW := Aside0.mk (below_step HB.out B_0.out)
     have AP9 := Aside0.mk (apart_of HV.out (R_one S_0.out GS.out))
     generalize wr = V0 at *
     have c9 := (blk_cell U9.out 1).trans rfl
     have t0 := (blk_cell T_0.out 0).trans rfl
     have t1 := (blk_cell T_0.out 1).trans rfl
     have t2 := (blk_cell T_0.out 2).trans rfl
     go_wp2_with (first | ((with_reducible refine gate_builtin (b := .append) (xs := #[.tmp 46, .tmp 48]) rfl ?_); at_builtin; refine Kd.R_append pk (w0 := w) w.heap.size rfl (.tmp 46) (.tmp 48) 31 55 (.agg #[.int .i64 0, .int .i64 0, .slice none 0 0]) 40 rfl Try.underlying31 info55 rfl (by decide) (by decide) (.slice Av nv cv) es (1, 1, ((some ⟨gS, 0, none⟩, 1, 1) : Hd)) [.int .i64 1, .int .i64 1, .slice (some ⟨gS, 0, none⟩) 1 1] (fun _ => True) (fun _ => False) rfl rfl (pk_M 1 1 (some ⟨gS, 0, none⟩, 1, 1)) (fun _ h => h.elim) (fun _ _ => trivial) (Kd.R_mono V9.out.row (fun _ _ => trivial)) BW.out BW.out.size HLE.out ?_; intro v11 w11 hR hB hg hat; have V11 := Aside0.mk (show PlsOwn w.heap.size w11 v11 (es ++ [(1, 1, ((some ⟨gS, 0, none⟩, 1, 1) : Hd))]) ((outs F (i + 1)).map fun s => [s]) by rw [outs_succ]; exact V9.out.push 1 1 (some ⟨gS, 0, none⟩, 1, 1) [F i] (R_one S_0.out (Nat.le_trans HB.out.size GS.out)) AP9.out hR hg); have B11 := Aside0.mk (hB); have P11 := Aside0.mk (blk_grown P9.out hg (fun e => V9.out.ne_row P9.out (by decide) e.symm)); have O11 := Aside0.mk (blk_grown O9.out hg (fun e => V9.out.ne_row O9.out (by decide) e.symm)); have U11 := Aside0.mk (blk_grown U9.out hg (fun e => V9.out.ne_row U9.out (by decide) e.symm)); obtain ⟨A9, c9, hv⟩ := Kd.R_slice hR; obtain ⟨n9, hn9⟩ : ∃ n9, (es ++ [(1, 1, ((some ⟨gS, 0, none⟩, 1, 1) : Hd))]).length = n9 := ⟨_, rfl⟩; rw [hn9] at hv; subst hv; clear hR hB hg hat hn9) | ((with_reducible refine gate_store (p := 50) rfl ?_); refine storec_event rfl rfl rfl g5 1 (.slice A9 n9 c9) _ _ rfl rfl rfl U11.out size31 (by simp) rfl ?_; intro w12 hm_ hst_ hbl_; have U12 : Aside0 (w12.heap[g5]? = some (.cells #[.int .i64 sp, .slice A9 n9 c9] 33 (0, 0))) := ⟨hm_⟩; have P12 := Aside0.mk ((hst_ g2 NEPU.out).trans P11.out); have O12 := Aside0.mk ((hst_ g4 NEOU.out).trans O11.out); have B12 := Aside0.mk (B11.out.trans (hbl_ _ GU.out)); have V12 := Aside0.mk (V11.out.keep hst_ (V11.out.ne_row U11.out (by decide)) (V11.out.ne_pl U11.out (by decide))); clear hm_ hst_ hbl_ P11 O11 B11 V11 U11))
     go_roundg (n - (i + 1))
     case measure => have := HIN.out; omega
     case rel => exact ⟨i + 1, A9, n9, c9, _, by first | rfl | (congr 1; omega), HIN.out, by omega, B12, P12, O12, U12, V12, ⟨fun k h => by
      rcases Nat.lt_or_ge k es.length with h1 | h1
      ·rw [List.getElem_append_left h1]; exact HD.out k h1
      ·have : k = es.length := by simp at h; omega
       subst this
       simp⟩⟩
end Go.Proofs.Ytjlciehcddanpaa.A
end
section
set_option linter.unusedVariables false
set_option linter.unusedSimpArgs false
set_option linter.unusedSectionVars false
namespace Go.Proofs.Ytjlciehcddanpaa.A
open Go.RowKit Go.Shelf Go.Proofs.YtjlciehcddanpaaW.PrintWords Go.Proofs.YtjlciehcddanpaaW.PrintLast Go.Proofs.YtjlciehcddanpaaW.PrintMore Go.Proofs.Ytjlciehcddanpaa.PMixNames

set_option maxRecDepth 100000
theorem cell_mv {w w1 : World} {a : Addr} {v : Value} (h : w.cell? a = some v) (hb : Below w.heap.size w w1) : w1.cell? a = some v := pw_cell_below hb h
theorem fade_calls (sp : Int) (A : Option Addr) (c : Nat) (ss : List Nat) (t k g2 g3 : Nat) (hk : k < ss.length) (h8 : ss.length < 1000) (W : World) (hg : W.heap[g2]? = some (.cells #[.int .i64 sp, .slice A ss.length c] 33 (0, 0))) (ht : W.heap[g3]? = some (.cells #[.int .u32 (t : Int)] 23 (0, 0))) (h : Pc W A c ss) (hM : ∀ r, floatBits .mul .f32 (gt ss k) t = some r → r < 4294967296) :
    Calls Try.prog 64 #[.int .i64 (k : Int), .int .i64 0, .pointer (some ⟨g2, 0, none⟩), .pointer (some ⟨g3, 0, none⟩)] W fun e w' => e = .returned (.int .u32 ((nr (floatBits .mul .f32 (gt ss k) t) : Nat) : Int)) ∧ Below W.heap.size W w' := by
 obtain ⟨n, hn⟩ : ∃ n, ss.length = n := ⟨_, rfl⟩
 have hk0 := hk
 rw [hn] at hg hk0 h8
 obtain ⟨ad, As, cs, rfl, _, _, k2s, _, hss⟩ := h.at_ k hk
 obtain ⟨s, hvs⟩ : ∃ s, gt ss k = s := ⟨_, rfl⟩
 rw [hvs] at hss ⊢
 rw [hvs] at hM
 have HM := Aside0.mk hM
 have e1k : decide ((0 : Int) ≤ (k : Int)) = true := decide_eq_true (by omega)
 have e2k : decide ((k : Int) < (n : Int)) = true := decide_eq_true (by omega)
 have e5k : ((0 : Int) ≤ (k : Int)) = True := eq_true (by omega)
 have e6k : ((k : Int) < (n : Int)) = True := eq_true (by omega)
 have e7k : (k < n) = True := eq_true (by omega)
 have B_0 : Aside0 (Below W.heap.size W W) := ⟨Below.refl _ _⟩
 have PB_0 := Aside0.mk ((blk_cell hg 1).trans rfl)
 have Fs_0 := Aside0.mk (show W.cell? ⟨(ad.add (k * 3)).block, (ad.add (k * 3)).off + 2, none⟩ = some (.slice (some As) 1 cs) from k2s)
 have Ss_0 := Aside0.mk (hss)
 have TT_0 := Aside0.mk ((blk_cell ht 0).trans rfl)
 clear hg ht h hM hvs hn hk hk0 h8 k2s hss
 go_enter Try.func64, Try.ntmps64
 go_wp2
 have B_1 : Aside0 (Below W.heap.size W W.drew) := ⟨below_drew B_0.out⟩
 have PB_1 := Aside0.mk (cell_mv PB_0.out (below_drew (Below.refl _ _)))
 have Fs_1 := Aside0.mk (cell_mv Fs_0.out (below_drew (Below.refl _ _)))
 have Ss_1 := Aside0.mk (cell_mv Ss_0.out (below_drew (Below.refl _ _)))
 have TT_1 := Aside0.mk (cell_mv TT_0.out (below_drew (Below.refl _ _)))
 clear B_0 PB_0 Fs_0 Ss_0 TT_0
 refine start_ (n := 12) (S := fun w' => w'.cell? ⟨g2, 1, none⟩ = some (.slice (some ad) n c) ∧ w'.cell? ⟨(ad.add (k * 3)).block, (ad.add (k * 3)).off + 2, none⟩ = some (.slice (some As) 1 cs) ∧ w'.cell? As = some (.int .u32 (s : Int)) ∧ w'.cell? ⟨g3, 0, none⟩ = some (.int .u32 (t : Int))) (ds := []) #[ff_,ff_,ff_,ff_,ff_,ff_,ff_,ff_,ff_,ff_,ff_,ff_] (by kernel_rfl) rfl rfl ⟨PB_1.out, Fs_1.out, Ss_1.out, TT_1.out⟩ (fun hHeld => ?_)
 generalize W.drew = w1 at *
 refine pure_ (i := 0) (N := some 7) (v := ?_) (a' := ?_) #[tt_,ff_,ff_,ff_,ff_,ff_,ff_,ff_,ff_,ff_,ff_,ff_] rfl rfl (by kernel_rfl) (fun _ _ _ h => h) (Or.inl ⟨by rfl, ?_⟩) ?_ ?_
 rotate_left
 ·intro w'
  go_simp
  with_reducible rfl
 rotate_left
 ·simp only [Act.put, List.setIfInBounds_toArray, List.set_cons_zero, List.set_cons_succ, i64_w, i32_w]
  rfl
 refine pure_ (i := 2) (N := some 9) (v := ?_) (a' := ?_) #[tt_,ff_,tt_,ff_,ff_,ff_,ff_,ff_,ff_,ff_,ff_,ff_] rfl rfl (by kernel_rfl) (fun _ _ _ h => h) (Or.inl ⟨by rfl, ?_⟩) ?_ ?_
 rotate_left
 ·intro w'
  go_simp
  with_reducible rfl
 rotate_left
 ·simp only [Act.put, List.setIfInBounds_toArray, List.set_cons_zero, List.set_cons_succ, i64_w, i32_w]
  rfl
 refine pure_ (i := 6) (N := some 13) (v := ?_) (a' := ?_) #[tt_,ff_,tt_,ff_,ff_,ff_,tt_,ff_,ff_,ff_,ff_,ff_] rfl rfl (by kernel_rfl) (fun _ _ _ h => h) (Or.inl ⟨by rfl, ?_⟩) ?_ ?_
 rotate_left
 ·intro w'
  go_simp
  with_reducible rfl
 rotate_left
 ·simp only [Act.put, List.setIfInBounds_toArray, List.set_cons_zero, List.set_cons_succ, i64_w, i32_w]
  rfl
 refine take_ (i := 1) (N := some 8) (v := ?_) (a' := ?_) #[tt_,tt_,tt_,ff_,ff_,ff_,tt_,ff_,ff_,ff_,ff_,ff_] rfl rfl (by kernel_rfl) (fun _ _ _ h => h) (Or.inl ⟨by rfl, ?_⟩) hHeld ?_ ?_
 rotate_left
 ·rintro w' ⟨s0, s1, s2, s3⟩
  go_simp
  with_reducible rfl
 rotate_left
 ·simp only [Act.put, List.setIfInBounds_toArray, List.set_cons_zero, List.set_cons_succ, i64_w, i32_w]
  rfl
 refine pure_ (i := 3) (N := some 10) (v := ?_) (a' := ?_) #[tt_,tt_,tt_,tt_,ff_,ff_,tt_,ff_,ff_,ff_,ff_,ff_] rfl rfl (by kernel_rfl) (fun _ _ _ h => h) (Or.inl ⟨by rfl, ?_⟩) ?_ ?_
 rotate_left
 ·intro w'
  go_simp
  with_reducible rfl
 rotate_left
 ·simp only [Act.put, List.setIfInBounds_toArray, List.set_cons_zero, List.set_cons_succ, i64_w, i32_w]
  rfl
 refine pure_ (i := 4) (N := some 11) (v := ?_) (a' := ?_) #[tt_,tt_,tt_,tt_,tt_,ff_,tt_,ff_,ff_,ff_,ff_,ff_] rfl rfl (by kernel_rfl) (fun _ _ _ h => h) (Or.inl ⟨by rfl, ?_⟩) ?_ ?_
 rotate_left
 ·intro w'
  go_simp
  with_reducible rfl
 rotate_left
 ·simp only [Act.put, List.setIfInBounds_toArray, List.set_cons_zero, List.set_cons_succ, i64_w, i32_w]
  rfl
 refine take_ (i := 5) (N := some 12) (v := ?_) (a' := ?_) #[tt_,tt_,tt_,tt_,tt_,tt_,tt_,ff_,ff_,ff_,ff_,ff_] rfl rfl (by kernel_rfl) (fun _ _ _ h => h) (Or.inl ⟨by rfl, ?_⟩) hHeld ?_ ?_
 rotate_left
 ·rintro w' ⟨s0, s1, s2, s3⟩
  go_simp
  with_reducible rfl
 rotate_left
 ·simp only [Act.put, List.setIfInBounds_toArray, List.set_cons_zero, List.set_cons_succ, i64_w, i32_w]
  rfl
 refine pure_ (i := 7) (N := some 14) (v := ?_) (a' := ?_) #[tt_,tt_,tt_,tt_,tt_,tt_,tt_,tt_,ff_,ff_,ff_,ff_] rfl rfl (by kernel_rfl) (fun _ _ _ h => h) (Or.inl ⟨by rfl, ?_⟩) ?_ ?_
 rotate_left
 ·intro w'
  go_simp
  with_reducible rfl
 rotate_left
 ·simp only [Act.put, List.setIfInBounds_toArray, List.set_cons_zero, List.set_cons_succ, i64_w, i32_w]
  rfl
 refine take_ (i := 8) (N := some 15) (v := ?_) (a' := ?_) #[tt_,tt_,tt_,tt_,tt_,tt_,tt_,tt_,tt_,ff_,ff_,ff_] rfl rfl (by kernel_rfl) (fun _ _ _ h => h) (Or.inl ⟨by rfl, ?_⟩) hHeld ?_ ?_
 rotate_left
 ·rintro w' ⟨s0, s1, s2, s3⟩
  go_simp
  with_reducible rfl
 rotate_left
 ·simp only [Act.put, List.setIfInBounds_toArray, List.set_cons_zero, List.set_cons_succ, i64_w, i32_w]
  rfl
 refine take_ (i := 9) (N := some 16) (v := ?_) (a' := ?_) #[tt_,tt_,tt_,tt_,tt_,tt_,tt_,tt_,tt_,tt_,ff_,ff_] rfl rfl (by kernel_rfl) (fun _ _ _ h => h) (Or.inl ⟨by rfl, ?_⟩) hHeld ?_ ?_
 rotate_left
 ·rintro w' ⟨s0, s1, s2, s3⟩
  go_simp
  with_reducible rfl
 rotate_left
 ·simp only [Act.put, List.setIfInBounds_toArray, List.set_cons_zero, List.set_cons_succ, i64_w, i32_w]
  rfl
 refine one_ (i := 10) (N := some 17) #[tt_,tt_,tt_,tt_,tt_,tt_,tt_,tt_,tt_,tt_,tt_,ff_] rfl rfl (by kernel_rfl) (by decide) (fun K hK => ?_)
 refine goes_ Try.func59 (by kernel_rfl) rfl #[.int .u32 (s : Int), .int .u32 (t : Int)] (by rfl) rfl rfl (by (try simp only [List.map_toArray, List.map_cons, List.map_nil]); rfl) ?_
 with_reducible refine (Mul_calls s t HM.out _).mono ?_
 rintro e w2 ⟨rfl, hd⟩
 refine ⟨_, rfl, ?_⟩
 have hb := hd.below
 have B_2 := Aside0.mk (below_step B_1.out hb)
 have PB_2 := Aside0.mk (cell_mv PB_1.out hb)
 have Fs_2 := Aside0.mk (cell_mv Fs_1.out hb)
 have Ss_2 := Aside0.mk (cell_mv Ss_1.out hb)
 have TT_2 := Aside0.mk (cell_mv TT_1.out hb)
 clear PB_1 Fs_1 Ss_1 TT_1
 clear hd
 clear hb
 refine hK.out _ _ ⟨PB_2.out, Fs_2.out, Ss_2.out, TT_2.out⟩ (fun hHeld => ?_)
 clear hK K
 refine norm_ (a' := ?_) ?_ ?_
 rotate_left
 ·show Act.put _ (some 17) _ = _
  simp only [Act.put, List.setIfInBounds_toArray, List.set_cons_zero, List.set_cons_succ, i64_w, i32_w]
  rfl
 refine pure_ (i := 11) (N := some 6) (v := ?_) (a' := ?_) #[tt_,tt_,tt_,tt_,tt_,tt_,tt_,tt_,tt_,tt_,tt_,tt_] rfl rfl (by kernel_rfl) (fun _ _ _ h => h) (Or.inl ⟨by rfl, ?_⟩) ?_ ?_
 rotate_left
 ·intro w'
  go_simp
  with_reducible rfl
 rotate_left
 ·simp only [Act.put, List.setIfInBounds_toArray, List.set_cons_zero, List.set_cons_succ, i64_w, i32_w]
  rfl
 refine done_ (by kernel_rfl) ?_
 go_wp2
 go_ret
 exact ⟨rfl, B_2.out⟩
theorem between_calls (sp : Int) (A A0 : Option Addr) (c c2 : Nat) (ss tt : List Nat) (t k g2 g3 g4 : Nat) (hl : tt.length = ss.length) (hk : k < ss.length) (h8 : ss.length < 1000) (W : World) (hg : W.heap[g2]? = some (.cells #[.int .i64 sp, .slice A ss.length c] 33 (0, 0))) (hg2 : W.heap[g3]? = some (.cells #[.int .i64 sp, .slice A0 tt.length c2] 33 (0, 0))) (ht : W.heap[g4]? = some (.cells #[.int .u32 (t : Int)] 23 (0, 0))) (h : Pc W A c ss) (h2 : Pc W A0 c2 tt) (h3 : gt ss k < 4294967296 ∧ gt tt k < 4294967296 ∧ t < 4294967296 ∧ Nov (stp (gt ss k) (gt tt k) t)) :
    Calls Try.prog 65 #[.int .i64 (k : Int), .int .i64 0, .pointer (some ⟨g2, 0, none⟩), .pointer (some ⟨g3, 0, none⟩), .pointer (some ⟨g4, 0, none⟩)] W fun e w' => e = .returned (.int .u32 ((tl (stp (gt ss k) (gt tt k) t) : Nat) : Int)) ∧ Below W.heap.size W w' := by
 obtain ⟨n, hn⟩ : ∃ n, ss.length = n := ⟨_, rfl⟩
 have hk0 := hk
 have hk1 : k < tt.length := by omega
 rw [hl] at hg2
 rw [hn] at hg hg2 hk0 h8
 obtain ⟨ad, Aa, ca, rfl, _, _, k2a, _, hsa⟩ := h.at_ k hk
 obtain ⟨a, hva⟩ : ∃ s, gt ss k = s := ⟨_, rfl⟩
 rw [hva] at hsa ⊢
 obtain ⟨bd, Ab, cb, rfl, _, _, k2b, _, hsb⟩ := h2.at_ k hk1
 obtain ⟨b, hvb⟩ : ∃ s, gt tt k = s := ⟨_, rfl⟩
 rw [hvb] at hsb ⊢
 rw [hva, hvb] at h3
 have H3 := Aside0.mk h3
 have e1k : decide ((0 : Int) ≤ (k : Int)) = true := decide_eq_true (by omega)
 have e2k : decide ((k : Int) < (n : Int)) = true := decide_eq_true (by omega)
 have e5k : ((0 : Int) ≤ (k : Int)) = True := eq_true (by omega)
 have e6k : ((k : Int) < (n : Int)) = True := eq_true (by omega)
 have e7k : (k < n) = True := eq_true (by omega)
 have B_0 : Aside0 (Below W.heap.size W W) := ⟨Below.refl _ _⟩
 have PB_0 := Aside0.mk ((blk_cell hg 1).trans rfl)
 have Fa_0 := Aside0.mk (show W.cell? ⟨(ad.add (k * 3)).block, (ad.add (k * 3)).off + 2, none⟩ = some (.slice (some Aa) 1 ca) from k2a)
 have Sa_0 := Aside0.mk (hsa)
 have QB_0 := Aside0.mk ((blk_cell hg2 1).trans rfl)
 have Fb_0 := Aside0.mk (show W.cell? ⟨(bd.add (k * 3)).block, (bd.add (k * 3)).off + 2, none⟩ = some (.slice (some Ab) 1 cb) from k2b)
 have Sb_0 := Aside0.mk (hsb)
 have TT_0 := Aside0.mk ((blk_cell ht 0).trans rfl)
 clear hg hg2 ht h h2 h3 hva hvb hn hk hk0 hk1 hl h8 k2a k2b hsa hsb
 go_enter Try.func65, Try.ntmps65
 go_wp2
 have B_1 : Aside0 (Below W.heap.size W W.drew) := ⟨below_drew B_0.out⟩
 have PB_1 := Aside0.mk (cell_mv PB_0.out (below_drew (Below.refl _ _)))
 have Fa_1 := Aside0.mk (cell_mv Fa_0.out (below_drew (Below.refl _ _)))
 have Sa_1 := Aside0.mk (cell_mv Sa_0.out (below_drew (Below.refl _ _)))
 have QB_1 := Aside0.mk (cell_mv QB_0.out (below_drew (Below.refl _ _)))
 have Fb_1 := Aside0.mk (cell_mv Fb_0.out (below_drew (Below.refl _ _)))
 have Sb_1 := Aside0.mk (cell_mv Sb_0.out (below_drew (Below.refl _ _)))
 have TT_1 := Aside0.mk (cell_mv TT_0.out (below_drew (Below.refl _ _)))
 clear B_0 PB_0 Fa_0 Sa_0 QB_0 Fb_0 Sb_0 TT_0
 refine start_ (n := 21) (S := fun w' => w'.cell? ⟨g2, 1, none⟩ = some (.slice (some ad) n c) ∧ w'.cell? ⟨(ad.add (k * 3)).block, (ad.add (k * 3)).off + 2, none⟩ = some (.slice (some Aa) 1 ca) ∧ w'.cell? Aa = some (.int .u32 (a : Int)) ∧ w'.cell? ⟨g3, 1, none⟩ = some (.slice (some bd) n c2) ∧ w'.cell? ⟨(bd.add (k * 3)).block, (bd.add (k * 3)).off + 2, none⟩ = some (.slice (some Ab) 1 cb) ∧ w'.cell? Ab = some (.int .u32 (b : Int)) ∧ w'.cell? ⟨g4, 0, none⟩ = some (.int .u32 (t : Int))) (ds := []) #[ff_,ff_,ff_,ff_,ff_,ff_,ff_,ff_,ff_,ff_,ff_,ff_,ff_,ff_,ff_,ff_,ff_,ff_,ff_,ff_,ff_] (by kernel_rfl) rfl rfl ⟨PB_1.out, Fa_1.out, Sa_1.out, QB_1.out, Fb_1.out, Sb_1.out, TT_1.out⟩ (fun hHeld => ?_)
 generalize W.drew = w1 at *
 refine pure_ (i := 0) (N := some 8) (v := ?_) (a' := ?_) #[tt_,ff_,ff_,ff_,ff_,ff_,ff_,ff_,ff_,ff_,ff_,ff_,ff_,ff_,ff_,ff_,ff_,ff_,ff_,ff_,ff_] rfl rfl (by kernel_rfl) (fun _ _ _ h => h) (Or.inl ⟨by rfl, ?_⟩) ?_ ?_
 rotate_left
 ·intro w'
  go_simp
  with_reducible rfl
 rotate_left
 ·simp only [Act.put, List.setIfInBounds_toArray, List.set_cons_zero, List.set_cons_succ, i64_w, i32_w]
  rfl
 refine pure_ (i := 2) (N := some 10) (v := ?_) (a' := ?_) #[tt_,ff_,tt_,ff_,ff_,ff_,ff_,ff_,ff_,ff_,ff_,ff_,ff_,ff_,ff_,ff_,ff_,ff_,ff_,ff_,ff_] rfl rfl (by kernel_rfl) (fun _ _ _ h => h) (Or.inl ⟨by rfl, ?_⟩) ?_ ?_
 rotate_left
 ·intro w'
  go_simp
  with_reducible rfl
 rotate_left
 ·simp only [Act.put, List.setIfInBounds_toArray, List.set_cons_zero, List.set_cons_succ, i64_w, i32_w]
  rfl
 refine pure_ (i := 6) (N := some 14) (v := ?_) (a' := ?_) #[tt_,ff_,tt_,ff_,ff_,ff_,tt_,ff_,ff_,ff_,ff_,ff_,ff_,ff_,ff_,ff_,ff_,ff_,ff_,ff_,ff_] rfl rfl (by kernel_rfl) (fun _ _ _ h => h) (Or.inl ⟨by rfl, ?_⟩) ?_ ?_
 rotate_left
 ·intro w'
  go_simp
  with_reducible rfl
 rotate_left
 ·simp only [Act.put, List.setIfInBounds_toArray, List.set_cons_zero, List.set_cons_succ, i64_w, i32_w]
  rfl
 refine pure_ (i := 9) (N := some 17) (v := ?_) (a' := ?_) #[tt_,ff_,tt_,ff_,ff_,ff_,tt_,ff_,ff_,tt_,ff_,ff_,ff_,ff_,ff_,ff_,ff_,ff_,ff_,ff_,ff_] rfl rfl (by kernel_rfl) (fun _ _ _ h => h) (Or.inl ⟨by rfl, ?_⟩) ?_ ?_
 rotate_left
 ·intro w'
  go_simp
  with_reducible rfl
 rotate_left
 ·simp only [Act.put, List.setIfInBounds_toArray, List.set_cons_zero, List.set_cons_succ, i64_w, i32_w]
  rfl
 refine pure_ (i := 11) (N := some 19) (v := ?_) (a' := ?_) #[tt_,ff_,tt_,ff_,ff_,ff_,tt_,ff_,ff_,tt_,ff_,tt_,ff_,ff_,ff_,ff_,ff_,ff_,ff_,ff_,ff_] rfl rfl (by kernel_rfl) (fun _ _ _ h => h) (Or.inl ⟨by rfl, ?_⟩) ?_ ?_
 rotate_left
 ·intro w'
  go_simp
  with_reducible rfl
 rotate_left
 ·simp only [Act.put, List.setIfInBounds_toArray, List.set_cons_zero, List.set_cons_succ, i64_w, i32_w]
  rfl
 refine pure_ (i := 15) (N := some 23) (v := ?_) (a' := ?_) #[tt_,ff_,tt_,ff_,ff_,ff_,tt_,ff_,ff_,tt_,ff_,tt_,ff_,ff_,ff_,tt_,ff_,ff_,ff_,ff_,ff_] rfl rfl (by kernel_rfl) (fun _ _ _ h => h) (Or.inl ⟨by rfl, ?_⟩) ?_ ?_
 rotate_left
 ·intro w'
  go_simp
  with_reducible rfl
 rotate_left
 ·simp only [Act.put, List.setIfInBounds_toArray, List.set_cons_zero, List.set_cons_succ, i64_w, i32_w]
  rfl
 refine take_ (i := 1) (N := some 9) (v := ?_) (a' := ?_) #[tt_,tt_,tt_,ff_,ff_,ff_,tt_,ff_,ff_,tt_,ff_,tt_,ff_,ff_,ff_,tt_,ff_,ff_,ff_,ff_,ff_] rfl rfl (by kernel_rfl) (fun _ _ _ h => h) (Or.inl ⟨by rfl, ?_⟩) hHeld ?_ ?_
 rotate_left
 ·rintro w' ⟨s0, s1, s2, s3, s4, s5, s6⟩
  go_simp
  with_reducible rfl
 rotate_left
 ·simp only [Act.put, List.setIfInBounds_toArray, List.set_cons_zero, List.set_cons_succ, i64_w, i32_w]
  rfl
 refine pure_ (i := 3) (N := some 11) (v := ?_) (a' := ?_) #[tt_,tt_,tt_,tt_,ff_,ff_,tt_,ff_,ff_,tt_,ff_,tt_,ff_,ff_,ff_,tt_,ff_,ff_,ff_,ff_,ff_] rfl rfl (by kernel_rfl) (fun _ _ _ h => h) (Or.inl ⟨by rfl, ?_⟩) ?_ ?_
 rotate_left
 ·intro w'
  go_simp
  with_reducible rfl
 rotate_left
 ·simp only [Act.put, List.setIfInBounds_toArray, List.set_cons_zero, List.set_cons_succ, i64_w, i32_w]
  rfl
 refine pure_ (i := 4) (N := some 12) (v := ?_) (a' := ?_) #[tt_,tt_,tt_,tt_,tt_,ff_,tt_,ff_,ff_,tt_,ff_,tt_,ff_,ff_,ff_,tt_,ff_,ff_,ff_,ff_,ff_] rfl rfl (by kernel_rfl) (fun _ _ _ h => h) (Or.inl ⟨by rfl, ?_⟩) ?_ ?_
 rotate_left
 ·intro w'
  go_simp
  with_reducible rfl
 rotate_left
 ·simp only [Act.put, List.setIfInBounds_toArray, List.set_cons_zero, List.set_cons_succ, i64_w, i32_w]
  rfl
 refine take_ (i := 5) (N := some 13) (v := ?_) (a' := ?_) #[tt_,tt_,tt_,tt_,tt_,tt_,tt_,ff_,ff_,tt_,ff_,tt_,ff_,ff_,ff_,tt_,ff_,ff_,ff_,ff_,ff_] rfl rfl (by kernel_rfl) (fun _ _ _ h => h) (Or.inl ⟨by rfl, ?_⟩) hHeld ?_ ?_
 rotate_left
 ·rintro w' ⟨s0, s1, s2, s3, s4, s5, s6⟩
  go_simp
  with_reducible rfl
 rotate_left
 ·simp only [Act.put, List.setIfInBounds_toArray, List.set_cons_zero, List.set_cons_succ, i64_w, i32_w]
  rfl
 refine pure_ (i := 7) (N := some 15) (v := ?_) (a' := ?_) #[tt_,tt_,tt_,tt_,tt_,tt_,tt_,tt_,ff_,tt_,ff_,tt_,ff_,ff_,ff_,tt_,ff_,ff_,ff_,ff_,ff_] rfl rfl (by kernel_rfl) (fun _ _ _ h => h) (Or.inl ⟨by rfl, ?_⟩) ?_ ?_
 rotate_left
 ·intro w'
  go_simp
  with_reducible rfl
 rotate_left
 ·simp only [Act.put, List.setIfInBounds_toArray, List.set_cons_zero, List.set_cons_succ, i64_w, i32_w]
  rfl
 refine take_ (i := 8) (N := some 16) (v := ?_) (a' := ?_) #[tt_,tt_,tt_,tt_,tt_,tt_,tt_,tt_,tt_,tt_,ff_,tt_,ff_,ff_,ff_,tt_,ff_,ff_,ff_,ff_,ff_] rfl rfl (by kernel_rfl) (fun _ _ _ h => h) (Or.inl ⟨by rfl, ?_⟩) hHeld ?_ ?_
 rotate_left
 ·rintro w' ⟨s0, s1, s2, s3, s4, s5, s6⟩
  go_simp
  with_reducible rfl
 rotate_left
 ·simp only [Act.put, List.setIfInBounds_toArray, List.set_cons_zero, List.set_cons_succ, i64_w, i32_w]
  rfl
 refine take_ (i := 10) (N := some 18) (v := ?_) (a' := ?_) #[tt_,tt_,tt_,tt_,tt_,tt_,tt_,tt_,tt_,tt_,tt_,tt_,ff_,ff_,ff_,tt_,ff_,ff_,ff_,ff_,ff_] rfl rfl (by kernel_rfl) (fun _ _ _ h => h) (Or.inl ⟨by rfl, ?_⟩) hHeld ?_ ?_
 rotate_left
 ·rintro w' ⟨s0, s1, s2, s3, s4, s5, s6⟩
  go_simp
  with_reducible rfl
 rotate_left
 ·simp only [Act.put, List.setIfInBounds_toArray, List.set_cons_zero, List.set_cons_succ, i64_w, i32_w]
  rfl
 refine pure_ (i := 12) (N := some 20) (v := ?_) (a' := ?_) #[tt_,tt_,tt_,tt_,tt_,tt_,tt_,tt_,tt_,tt_,tt_,tt_,tt_,ff_,ff_,tt_,ff_,ff_,ff_,ff_,ff_] rfl rfl (by kernel_rfl) (fun _ _ _ h => h) (Or.inl ⟨by rfl, ?_⟩) ?_ ?_
 rotate_left
 ·intro w'
  go_simp
  with_reducible rfl
 rotate_left
 ·simp only [Act.put, List.setIfInBounds_toArray, List.set_cons_zero, List.set_cons_succ, i64_w, i32_w]
  rfl
 refine pure_ (i := 13) (N := some 21) (v := ?_) (a' := ?_) #[tt_,tt_,tt_,tt_,tt_,tt_,tt_,tt_,tt_,tt_,tt_,tt_,tt_,tt_,ff_,tt_,ff_,ff_,ff_,ff_,ff_] rfl rfl (by kernel_rfl) (fun _ _ _ h => h) (Or.inl ⟨by rfl, ?_⟩) ?_ ?_
 rotate_left
 ·intro w'
  go_simp
  with_reducible rfl
 rotate_left
 ·simp only [Act.put, List.setIfInBounds_toArray, List.set_cons_zero, List.set_cons_succ, i64_w, i32_w]
  rfl
 refine take_ (i := 14) (N := some 22) (v := ?_) (a' := ?_) #[tt_,tt_,tt_,tt_,tt_,tt_,tt_,tt_,tt_,tt_,tt_,tt_,tt_,tt_,tt_,tt_,ff_,ff_,ff_,ff_,ff_] rfl rfl (by kernel_rfl) (fun _ _ _ h => h) (Or.inl ⟨by rfl, ?_⟩) hHeld ?_ ?_
 rotate_left
 ·rintro w' ⟨s0, s1, s2, s3, s4, s5, s6⟩
  go_simp
  with_reducible rfl
 rotate_left
 ·simp only [Act.put, List.setIfInBounds_toArray, List.set_cons_zero, List.set_cons_succ, i64_w, i32_w]
  rfl
 refine pure_ (i := 16) (N := some 24) (v := ?_) (a' := ?_) #[tt_,tt_,tt_,tt_,tt_,tt_,tt_,tt_,tt_,tt_,tt_,tt_,tt_,tt_,tt_,tt_,tt_,ff_,ff_,ff_,ff_] rfl rfl (by kernel_rfl) (fun _ _ _ h => h) (Or.inl ⟨by rfl, ?_⟩) ?_ ?_
 rotate_left
 ·intro w'
  go_simp
  with_reducible rfl
 rotate_left
 ·simp only [Act.put, List.setIfInBounds_toArray, List.set_cons_zero, List.set_cons_succ, i64_w, i32_w]
  rfl
 refine take_ (i := 17) (N := some 25) (v := ?_) (a' := ?_) #[tt_,tt_,tt_,tt_,tt_,tt_,tt_,tt_,tt_,tt_,tt_,tt_,tt_,tt_,tt_,tt_,tt_,tt_,ff_,ff_,ff_] rfl rfl (by kernel_rfl) (fun _ _ _ h => h) (Or.inl ⟨by rfl, ?_⟩) hHeld ?_ ?_
 rotate_left
 ·rintro w' ⟨s0, s1, s2, s3, s4, s5, s6⟩
  go_simp
  with_reducible rfl
 rotate_left
 ·simp only [Act.put, List.setIfInBounds_toArray, List.set_cons_zero, List.set_cons_succ, i64_w, i32_w]
  rfl
 refine take_ (i := 18) (N := some 26) (v := ?_) (a' := ?_) #[tt_,tt_,tt_,tt_,tt_,tt_,tt_,tt_,tt_,tt_,tt_,tt_,tt_,tt_,tt_,tt_,tt_,tt_,tt_,ff_,ff_] rfl rfl (by kernel_rfl) (fun _ _ _ h => h) (Or.inl ⟨by rfl, ?_⟩) hHeld ?_ ?_
 rotate_left
 ·rintro w' ⟨s0, s1, s2, s3, s4, s5, s6⟩
  go_simp
  with_reducible rfl
 rotate_left
 ·simp only [Act.put, List.setIfInBounds_toArray, List.set_cons_zero, List.set_cons_succ, i64_w, i32_w]
  rfl
 refine one_ (i := 19) (N := some 27) #[tt_,tt_,tt_,tt_,tt_,tt_,tt_,tt_,tt_,tt_,tt_,tt_,tt_,tt_,tt_,tt_,tt_,tt_,tt_,tt_,ff_] rfl rfl (by kernel_rfl) (by decide) (fun K hK => ?_)
 refine goes_ Try.func13 (by kernel_rfl) rfl #[.int .u32 (a : Int), .int .u32 (b : Int), .int .u32 (t : Int)] (by rfl) rfl rfl (by (try simp only [List.map_toArray, List.map_cons, List.map_nil]); rfl) ?_
 with_reducible refine (Step_calls a b t H3.out.1 H3.out.2.1 H3.out.2.2.1 H3.out.2.2.2 _).mono ?_
 rintro e w2 ⟨rfl, hb⟩
 refine ⟨_, rfl, ?_⟩
 have B_2 := Aside0.mk (below_step B_1.out hb)
 have PB_2 := Aside0.mk (cell_mv PB_1.out hb)
 have Fa_2 := Aside0.mk (cell_mv Fa_1.out hb)
 have Sa_2 := Aside0.mk (cell_mv Sa_1.out hb)
 have QB_2 := Aside0.mk (cell_mv QB_1.out hb)
 have Fb_2 := Aside0.mk (cell_mv Fb_1.out hb)
 have Sb_2 := Aside0.mk (cell_mv Sb_1.out hb)
 have TT_2 := Aside0.mk (cell_mv TT_1.out hb)
 clear PB_1 Fa_1 Sa_1 QB_1 Fb_1 Sb_1 TT_1
 clear hb
 refine hK.out _ _ ⟨PB_2.out, Fa_2.out, Sa_2.out, QB_2.out, Fb_2.out, Sb_2.out, TT_2.out⟩ (fun hHeld => ?_)
 clear hK K
 refine norm_ (a' := ?_) ?_ ?_
 rotate_left
 ·show Act.put _ (some 27) _ = _
  simp only [Act.put, List.setIfInBounds_toArray, List.set_cons_zero, List.set_cons_succ, i64_w, i32_w]
  rfl
 refine pure_ (i := 20) (N := some 7) (v := ?_) (a' := ?_) #[tt_,tt_,tt_,tt_,tt_,tt_,tt_,tt_,tt_,tt_,tt_,tt_,tt_,tt_,tt_,tt_,tt_,tt_,tt_,tt_,tt_] rfl rfl (by kernel_rfl) (fun _ _ _ h => h) (Or.inl ⟨by rfl, ?_⟩) ?_ ?_
 rotate_left
 ·intro w'
  go_simp
  with_reducible rfl
 rotate_left
 ·simp only [Act.put, List.setIfInBounds_toArray, List.set_cons_zero, List.set_cons_succ, i64_w, i32_w]
  rfl
 refine done_ (by kernel_rfl) ?_
 go_wp2
 go_ret
 exact ⟨rfl, B_2.out⟩
set_option maxHeartbeats 4000000 in
theorem mix_calls (sp : Int) (A A0 : Option Addr) (c c2 : Nat) (ss tt : List Nat) (k g1 g2 g3 : Nat) (hk : k < 4) (h4 : ss.length = 4) (hl : tt.length = 4) (W : World) (hw : W.heap[g1]? = some (.cells #[.func (.func 87) #[] #[]] 63 (0, 0))) (hg : W.heap[g2]? = some (.cells #[.int .i64 sp, .slice A 4 c] 33 (0, 0))) (hg2 : W.heap[g3]? = some (.cells #[.int .i64 sp, .slice A0 4 c2] 33 (0, 0))) (h : Pc W A c ss) (h2 : Pc W A0 c2 tt) (hlt : ∀ i, gt ss i < 4294967296 ∧ gt tt i < 4294967296) (hN : Nov (wy1 (wv (gt ss k)) (wv (gt ss 3)) (wv (gt tt k)) (wv (gt tt 3)))) :
    Calls Try.prog 48 #[.int .i64 (k : Int), .int .i64 0, .pointer (some ⟨g1, 0, none⟩), .pointer (some ⟨g2, 0, none⟩), .pointer (some ⟨g3, 0, none⟩)] W fun e w' => e = .returned (.int .u32 ((tl (wy1 (wv (gt ss k)) (wv (gt ss 3)) (wv (gt tt k)) (wv (gt tt 3))) : Nat) : Int)) ∧ Below W.heap.size W w' := by
 have Ha := (hlt k).1
 have Hb := (hlt 3).1
 have Hd := (hlt k).2
 have He := (hlt 3).2
 obtain ⟨ad, Aa, ca, rfl, _, _, k2a, _, hsa⟩ := h.at_ k (by omega)
 obtain ⟨a, hva⟩ : ∃ s, gt ss k = s := ⟨_, rfl⟩
 rw [hva] at hsa ⊢
 obtain ⟨adb, Ab, cb, hAb, _, _, k2b, _, hsb⟩ := h.at_ 3 (by omega)
 obtain rfl : ad = adb := by injection hAb
 obtain ⟨b, hvb⟩ : ∃ s, gt ss 3 = s := ⟨_, rfl⟩
 rw [hvb] at hsb ⊢
 obtain ⟨bd, Ad, cd, rfl, _, _, k2d, _, hsd⟩ := h2.at_ k (by omega)
 obtain ⟨d, hvd⟩ : ∃ s, gt tt k = s := ⟨_, rfl⟩
 rw [hvd] at hsd ⊢
 obtain ⟨ade, Ae, ce, hAe, _, _, k2e, _, hse⟩ := h2.at_ 3 (by omega)
 obtain rfl : bd = ade := by injection hAe
 obtain ⟨e, hve⟩ : ∃ s, gt tt 3 = s := ⟨_, rfl⟩
 rw [hve] at hse ⊢
 rw [hva, hvb, hvd, hve] at hN
 rw [hva] at Ha
 rw [hvb] at Hb
 rw [hvd] at Hd
 rw [hve] at He
 have Ha := Aside0.mk Ha
 have Hb := Aside0.mk Hb
 have Hd := Aside0.mk Hd
 have He := Aside0.mk He
 have HN := Aside0.mk hN
 have e1k : decide ((0 : Int) ≤ (k : Int)) = true := decide_eq_true (by omega)
 have e2k : decide ((k : Int) < (4 : Int)) = true := decide_eq_true (by omega)
 have e5k : ((0 : Int) ≤ (k : Int)) = True := eq_true (by omega)
 have e6k : ((k : Int) < (4 : Int)) = True := eq_true (by omega)
 have e7k : (k < 4) = True := eq_true (by omega)
 have B_0 : Aside0 (Below W.heap.size W W) := ⟨Below.refl _ _⟩
 have WY_0 := Aside0.mk ((blk_cell hw 0).trans rfl)
 have PB_0 := Aside0.mk ((blk_cell hg 1).trans rfl)
 have Fa_0 := Aside0.mk (show W.cell? ⟨(ad.add (k * 3)).block, (ad.add (k * 3)).off + 2, none⟩ = some (.slice (some Aa) 1 ca) from k2a)
 have Sa_0 := Aside0.mk (hsa)
 have Fb_0 := Aside0.mk (show W.cell? ⟨ad.block, ad.off + 9 + 2, none⟩ = some (.slice (some Ab) 1 cb) from k2b)
 have Sb_0 := Aside0.mk (hsb)
 have QB_0 := Aside0.mk ((blk_cell hg2 1).trans rfl)
 have Fd_0 := Aside0.mk (show W.cell? ⟨(bd.add (k * 3)).block, (bd.add (k * 3)).off + 2, none⟩ = some (.slice (some Ad) 1 cd) from k2d)
 have Sd_0 := Aside0.mk (hsd)
 have Fe_0 := Aside0.mk (show W.cell? ⟨bd.block, bd.off + 9 + 2, none⟩ = some (.slice (some Ae) 1 ce) from k2e)
 have Se_0 := Aside0.mk (hse)
 clear hw hg hg2 h h2 hN hva hvb hvd hve hk hl h4 hlt k2a k2b k2d k2e hsa hsb hsd hse
 go_enter Try.func48, Try.ntmps48
 go_wp2
 have B_1 : Aside0 (Below W.heap.size W W.drew) := ⟨below_drew B_0.out⟩
 have WY_1 := Aside0.mk (cell_mv WY_0.out (below_drew (Below.refl _ _)))
 have PB_1 := Aside0.mk (cell_mv PB_0.out (below_drew (Below.refl _ _)))
 have Fa_1 := Aside0.mk (cell_mv Fa_0.out (below_drew (Below.refl _ _)))
 have Sa_1 := Aside0.mk (cell_mv Sa_0.out (below_drew (Below.refl _ _)))
 have Fb_1 := Aside0.mk (cell_mv Fb_0.out (below_drew (Below.refl _ _)))
 have Sb_1 := Aside0.mk (cell_mv Sb_0.out (below_drew (Below.refl _ _)))
 have QB_1 := Aside0.mk (cell_mv QB_0.out (below_drew (Below.refl _ _)))
 have Fd_1 := Aside0.mk (cell_mv Fd_0.out (below_drew (Below.refl _ _)))
 have Sd_1 := Aside0.mk (cell_mv Sd_0.out (below_drew (Below.refl _ _)))
 have Fe_1 := Aside0.mk (cell_mv Fe_0.out (below_drew (Below.refl _ _)))
 have Se_1 := Aside0.mk (cell_mv Se_0.out (below_drew (Below.refl _ _)))
 clear B_0 WY_0 PB_0 Fa_0 Sa_0 Fb_0 Sb_0 QB_0 Fd_0 Sd_0 Fe_0 Se_0
 refine start_ (n := 42) (S := fun w' => w'.cell? ⟨g1, 0, none⟩ = some (.func (.func 87) #[] #[]) ∧ w'.cell? ⟨g2, 1, none⟩ = some (.slice (some ad) 4 c) ∧ w'.cell? ⟨(ad.add (k * 3)).block, (ad.add (k * 3)).off + 2, none⟩ = some (.slice (some Aa) 1 ca) ∧ w'.cell? Aa = some (.int .u32 (a : Int)) ∧ w'.cell? ⟨ad.block, ad.off + 9 + 2, none⟩ = some (.slice (some Ab) 1 cb) ∧ w'.cell? Ab = some (.int .u32 (b : Int)) ∧ w'.cell? ⟨g3, 1, none⟩ = some (.slice (some bd) 4 c2) ∧ w'.cell? ⟨(bd.add (k * 3)).block, (bd.add (k * 3)).off + 2, none⟩ = some (.slice (some Ad) 1 cd) ∧ w'.cell? Ad = some (.int .u32 (d : Int)) ∧ w'.cell? ⟨bd.block, bd.off + 9 + 2, none⟩ = some (.slice (some Ae) 1 ce) ∧ w'.cell? Ae = some (.int .u32 (e : Int))) (ds := []) #[ff_,ff_,ff_,ff_,ff_,ff_,ff_,ff_,ff_,ff_,ff_,ff_,ff_,ff_,ff_,ff_,ff_,ff_,ff_,ff_,ff_,ff_,ff_,ff_,ff_,ff_,ff_,ff_,ff_,ff_,ff_,ff_,ff_,ff_,ff_,ff_,ff_,ff_,ff_,ff_,ff_,ff_] (by kernel_rfl) rfl rfl ⟨WY_1.out, PB_1.out, Fa_1.out, Sa_1.out, Fb_1.out, Sb_1.out, QB_1.out, Fd_1.out, Sd_1.out, Fe_1.out, Se_1.out⟩ (fun hHeld => ?_)
 generalize W.drew = w1 at *
 refine pure_ (i := 1) (N := some 9) (v := ?_) (a' := ?_) #[ff_,tt_,ff_,ff_,ff_,ff_,ff_,ff_,ff_,ff_,ff_,ff_,ff_,ff_,ff_,ff_,ff_,ff_,ff_,ff_,ff_,ff_,ff_,ff_,ff_,ff_,ff_,ff_,ff_,ff_,ff_,ff_,ff_,ff_,ff_,ff_,ff_,ff_,ff_,ff_,ff_,ff_] rfl rfl (by kernel_rfl) (fun _ _ _ h => h) (Or.inl ⟨by rfl, ?_⟩) ?_ ?_
 rotate_left
 ·intro w'
  go_simp
  with_reducible rfl
 rotate_left
 ·simp only [Act.put, List.setIfInBounds_toArray, List.set_cons_zero, List.set_cons_succ, i64_w, i32_w]
  rfl
 refine pure_ (i := 3) (N := some 11) (v := ?_) (a' := ?_) #[ff_,tt_,ff_,tt_,ff_,ff_,ff_,ff_,ff_,ff_,ff_,ff_,ff_,ff_,ff_,ff_,ff_,ff_,ff_,ff_,ff_,ff_,ff_,ff_,ff_,ff_,ff_,ff_,ff_,ff_,ff_,ff_,ff_,ff_,ff_,ff_,ff_,ff_,ff_,ff_,ff_,ff_] rfl rfl (by kernel_rfl) (fun _ _ _ h => h) (Or.inl ⟨by rfl, ?_⟩) ?_ ?_
 rotate_left
 ·intro w'
  go_simp
  with_reducible rfl
 rotate_left
 ·simp only [Act.put, List.setIfInBounds_toArray, List.set_cons_zero, List.set_cons_succ, i64_w, i32_w]
  rfl
 refine pure_ (i := 7) (N := some 15) (v := ?_) (a' := ?_) #[ff_,tt_,ff_,tt_,ff_,ff_,ff_,tt_,ff_,ff_,ff_,ff_,ff_,ff_,ff_,ff_,ff_,ff_,ff_,ff_,ff_,ff_,ff_,ff_,ff_,ff_,ff_,ff_,ff_,ff_,ff_,ff_,ff_,ff_,ff_,ff_,ff_,ff_,ff_,ff_,ff_,ff_] rfl rfl (by kernel_rfl) (fun _ _ _ h => h) (Or.inl ⟨by rfl, ?_⟩) ?_ ?_
 rotate_left
 ·intro w'
  go_simp
  with_reducible rfl
 rotate_left
 ·simp only [Act.put, List.setIfInBounds_toArray, List.set_cons_zero, List.set_cons_succ, i64_w, i32_w]
  rfl
 refine pure_ (i := 11) (N := some 19) (v := ?_) (a' := ?_) #[ff_,tt_,ff_,tt_,ff_,ff_,ff_,tt_,ff_,ff_,ff_,tt_,ff_,ff_,ff_,ff_,ff_,ff_,ff_,ff_,ff_,ff_,ff_,ff_,ff_,ff_,ff_,ff_,ff_,ff_,ff_,ff_,ff_,ff_,ff_,ff_,ff_,ff_,ff_,ff_,ff_,ff_] rfl rfl (by kernel_rfl) (fun _ _ _ h => h) (Or.inl ⟨by rfl, ?_⟩) ?_ ?_
 rotate_left
 ·intro w'
  go_simp
  with_reducible rfl
 rotate_left
 ·simp only [Act.put, List.setIfInBounds_toArray, List.set_cons_zero, List.set_cons_succ, i64_w, i32_w]
  rfl
 refine pure_ (i := 16) (N := some 24) (v := ?_) (a' := ?_) #[ff_,tt_,ff_,tt_,ff_,ff_,ff_,tt_,ff_,ff_,ff_,tt_,ff_,ff_,ff_,ff_,tt_,ff_,ff_,ff_,ff_,ff_,ff_,ff_,ff_,ff_,ff_,ff_,ff_,ff_,ff_,ff_,ff_,ff_,ff_,ff_,ff_,ff_,ff_,ff_,ff_,ff_] rfl rfl (by kernel_rfl) (fun _ _ _ h => h) (Or.inl ⟨by rfl, ?_⟩) ?_ ?_
 rotate_left
 ·intro w'
  go_simp
  with_reducible rfl
 rotate_left
 ·simp only [Act.put, List.setIfInBounds_toArray, List.set_cons_zero, List.set_cons_succ, i64_w, i32_w]
  rfl
 refine pure_ (i := 20) (N := some 28) (v := ?_) (a' := ?_) #[ff_,tt_,ff_,tt_,ff_,ff_,ff_,tt_,ff_,ff_,ff_,tt_,ff_,ff_,ff_,ff_,tt_,ff_,ff_,ff_,tt_,ff_,ff_,ff_,ff_,ff_,ff_,ff_,ff_,ff_,ff_,ff_,ff_,ff_,ff_,ff_,ff_,ff_,ff_,ff_,ff_,ff_] rfl rfl (by kernel_rfl) (fun _ _ _ h => h) (Or.inl ⟨by rfl, ?_⟩) ?_ ?_
 rotate_left
 ·intro w'
  go_simp
  with_reducible rfl
 rotate_left
 ·simp only [Act.put, List.setIfInBounds_toArray, List.set_cons_zero, List.set_cons_succ, i64_w, i32_w]
  rfl
 refine pure_ (i := 22) (N := some 30) (v := ?_) (a' := ?_) #[ff_,tt_,ff_,tt_,ff_,ff_,ff_,tt_,ff_,ff_,ff_,tt_,ff_,ff_,ff_,ff_,tt_,ff_,ff_,ff_,tt_,ff_,tt_,ff_,ff_,ff_,ff_,ff_,ff_,ff_,ff_,ff_,ff_,ff_,ff_,ff_,ff_,ff_,ff_,ff_,ff_,ff_] rfl rfl (by kernel_rfl) (fun _ _ _ h => h) (Or.inl ⟨by rfl, ?_⟩) ?_ ?_
 rotate_left
 ·intro w'
  go_simp
  with_reducible rfl
 rotate_left
 ·simp only [Act.put, List.setIfInBounds_toArray, List.set_cons_zero, List.set_cons_succ, i64_w, i32_w]
  rfl
 refine pure_ (i := 26) (N := some 34) (v := ?_) (a' := ?_) #[ff_,tt_,ff_,tt_,ff_,ff_,ff_,tt_,ff_,ff_,ff_,tt_,ff_,ff_,ff_,ff_,tt_,ff_,ff_,ff_,tt_,ff_,tt_,ff_,ff_,ff_,tt_,ff_,ff_,ff_,ff_,ff_,ff_,ff_,ff_,ff_,ff_,ff_,ff_,ff_,ff_,ff_] rfl rfl (by kernel_rfl) (fun _ _ _ h => h) (Or.inl ⟨by rfl, ?_⟩) ?_ ?_
 rotate_left
 ·intro w'
  go_simp
  with_reducible rfl
 rotate_left
 ·simp only [Act.put, List.setIfInBounds_toArray, List.set_cons_zero, List.set_cons_succ, i64_w, i32_w]
  rfl
 refine pure_ (i := 30) (N := some 38) (v := ?_) (a' := ?_) #[ff_,tt_,ff_,tt_,ff_,ff_,ff_,tt_,ff_,ff_,ff_,tt_,ff_,ff_,ff_,ff_,tt_,ff_,ff_,ff_,tt_,ff_,tt_,ff_,ff_,ff_,tt_,ff_,ff_,ff_,tt_,ff_,ff_,ff_,ff_,ff_,ff_,ff_,ff_,ff_,ff_,ff_] rfl rfl (by kernel_rfl) (fun _ _ _ h => h) (Or.inl ⟨by rfl, ?_⟩) ?_ ?_
 rotate_left
 ·intro w'
  go_simp
  with_reducible rfl
 rotate_left
 ·simp only [Act.put, List.setIfInBounds_toArray, List.set_cons_zero, List.set_cons_succ, i64_w, i32_w]
  rfl
 refine pure_ (i := 35) (N := some 43) (v := ?_) (a' := ?_) #[ff_,tt_,ff_,tt_,ff_,ff_,ff_,tt_,ff_,ff_,ff_,tt_,ff_,ff_,ff_,ff_,tt_,ff_,ff_,ff_,tt_,ff_,tt_,ff_,ff_,ff_,tt_,ff_,ff_,ff_,tt_,ff_,ff_,ff_,ff_,tt_,ff_,ff_,ff_,ff_,ff_,ff_] rfl rfl (by kernel_rfl) (fun _ _ _ h => h) (Or.inl ⟨by rfl, ?_⟩) ?_ ?_
 rotate_left
 ·intro w'
  go_simp
  with_reducible rfl
 rotate_left
 ·simp only [Act.put, List.setIfInBounds_toArray, List.set_cons_zero, List.set_cons_succ, i64_w, i32_w]
  rfl
 refine take_ (i := 0) (N := some 8) (v := ?_) (a' := ?_) #[tt_,tt_,ff_,tt_,ff_,ff_,ff_,tt_,ff_,ff_,ff_,tt_,ff_,ff_,ff_,ff_,tt_,ff_,ff_,ff_,tt_,ff_,tt_,ff_,ff_,ff_,tt_,ff_,ff_,ff_,tt_,ff_,ff_,ff_,ff_,tt_,ff_,ff_,ff_,ff_,ff_,ff_] rfl rfl (by kernel_rfl) (fun _ _ _ h => h) (Or.inl ⟨by rfl, ?_⟩) hHeld ?_ ?_
 rotate_left
 ·rintro w' ⟨s0, s1, s2, s3, s4, s5, s6, s7, s8, s9, s10⟩
  go_simp
  with_reducible rfl
 rotate_left
 ·simp only [Act.put, List.setIfInBounds_toArray, List.set_cons_zero, List.set_cons_succ, i64_w, i32_w]
  rfl
 refine take_ (i := 2) (N := some 10) (v := ?_) (a' := ?_) #[tt_,tt_,tt_,tt_,ff_,ff_,ff_,tt_,ff_,ff_,ff_,tt_,ff_,ff_,ff_,ff_,tt_,ff_,ff_,ff_,tt_,ff_,tt_,ff_,ff_,ff_,tt_,ff_,ff_,ff_,tt_,ff_,ff_,ff_,ff_,tt_,ff_,ff_,ff_,ff_,ff_,ff_] rfl rfl (by kernel_rfl) (fun _ _ _ h => h) (Or.inl ⟨by rfl, ?_⟩) hHeld ?_ ?_
 rotate_left
 ·rintro w' ⟨s0, s1, s2, s3, s4, s5, s6, s7, s8, s9, s10⟩
  go_simp
  with_reducible rfl
 rotate_left
 ·simp only [Act.put, List.setIfInBounds_toArray, List.set_cons_zero, List.set_cons_succ, i64_w, i32_w]
  rfl
 refine pure_ (i := 4) (N := some 12) (v := ?_) (a' := ?_) #[tt_,tt_,tt_,tt_,tt_,ff_,ff_,tt_,ff_,ff_,ff_,tt_,ff_,ff_,ff_,ff_,tt_,ff_,ff_,ff_,tt_,ff_,tt_,ff_,ff_,ff_,tt_,ff_,ff_,ff_,tt_,ff_,ff_,ff_,ff_,tt_,ff_,ff_,ff_,ff_,ff_,ff_] rfl rfl (by kernel_rfl) (fun _ _ _ h => h) (Or.inl ⟨by rfl, ?_⟩) ?_ ?_
 rotate_left
 ·intro w'
  go_simp
  with_reducible rfl
 rotate_left
 ·simp only [Act.put, List.setIfInBounds_toArray, List.set_cons_zero, List.set_cons_succ, i64_w, i32_w]
  rfl
 refine pure_ (i := 5) (N := some 13) (v := ?_) (a' := ?_) #[tt_,tt_,tt_,tt_,tt_,tt_,ff_,tt_,ff_,ff_,ff_,tt_,ff_,ff_,ff_,ff_,tt_,ff_,ff_,ff_,tt_,ff_,tt_,ff_,ff_,ff_,tt_,ff_,ff_,ff_,tt_,ff_,ff_,ff_,ff_,tt_,ff_,ff_,ff_,ff_,ff_,ff_] rfl rfl (by kernel_rfl) (fun _ _ _ h => h) (Or.inl ⟨by rfl, ?_⟩) ?_ ?_
 rotate_left
 ·intro w'
  go_simp
  with_reducible rfl
 rotate_left
 ·simp only [Act.put, List.setIfInBounds_toArray, List.set_cons_zero, List.set_cons_succ, i64_w, i32_w]
  rfl
 refine take_ (i := 6) (N := some 14) (v := ?_) (a' := ?_) #[tt_,tt_,tt_,tt_,tt_,tt_,tt_,tt_,ff_,ff_,ff_,tt_,ff_,ff_,ff_,ff_,tt_,ff_,ff_,ff_,tt_,ff_,tt_,ff_,ff_,ff_,tt_,ff_,ff_,ff_,tt_,ff_,ff_,ff_,ff_,tt_,ff_,ff_,ff_,ff_,ff_,ff_] rfl rfl (by kernel_rfl) (fun _ _ _ h => h) (Or.inl ⟨by rfl, ?_⟩) hHeld ?_ ?_
 rotate_left
 ·rintro w' ⟨s0, s1, s2, s3, s4, s5, s6, s7, s8, s9, s10⟩
  go_simp
  with_reducible rfl
 rotate_left
 ·simp only [Act.put, List.setIfInBounds_toArray, List.set_cons_zero, List.set_cons_succ, i64_w, i32_w]
  rfl
 refine pure_ (i := 8) (N := some 16) (v := ?_) (a' := ?_) #[tt_,tt_,tt_,tt_,tt_,tt_,tt_,tt_,tt_,ff_,ff_,tt_,ff_,ff_,ff_,ff_,tt_,ff_,ff_,ff_,tt_,ff_,tt_,ff_,ff_,ff_,tt_,ff_,ff_,ff_,tt_,ff_,ff_,ff_,ff_,tt_,ff_,ff_,ff_,ff_,ff_,ff_] rfl rfl (by kernel_rfl) (fun _ _ _ h => h) (Or.inl ⟨by rfl, ?_⟩) ?_ ?_
 rotate_left
 ·intro w'
  go_simp
  with_reducible rfl
 rotate_left
 ·simp only [Act.put, List.setIfInBounds_toArray, List.set_cons_zero, List.set_cons_succ, i64_w, i32_w]
  rfl
 refine take_ (i := 9) (N := some 17) (v := ?_) (a' := ?_) #[tt_,tt_,tt_,tt_,tt_,tt_,tt_,tt_,tt_,tt_,ff_,tt_,ff_,ff_,ff_,ff_,tt_,ff_,ff_,ff_,tt_,ff_,tt_,ff_,ff_,ff_,tt_,ff_,ff_,ff_,tt_,ff_,ff_,ff_,ff_,tt_,ff_,ff_,ff_,ff_,ff_,ff_] rfl rfl (by kernel_rfl) (fun _ _ _ h => h) (Or.inl ⟨by rfl, ?_⟩) hHeld ?_ ?_
 rotate_left
 ·rintro w' ⟨s0, s1, s2, s3, s4, s5, s6, s7, s8, s9, s10⟩
  go_simp
  with_reducible rfl
 rotate_left
 ·simp only [Act.put, List.setIfInBounds_toArray, List.set_cons_zero, List.set_cons_succ, i64_w, i32_w]
  rfl
 refine take_ (i := 12) (N := some 20) (v := ?_) (a' := ?_) #[tt_,tt_,tt_,tt_,tt_,tt_,tt_,tt_,tt_,tt_,ff_,tt_,tt_,ff_,ff_,ff_,tt_,ff_,ff_,ff_,tt_,ff_,tt_,ff_,ff_,ff_,tt_,ff_,ff_,ff_,tt_,ff_,ff_,ff_,ff_,tt_,ff_,ff_,ff_,ff_,ff_,ff_] rfl rfl (by kernel_rfl) (fun _ _ _ h => h) (Or.inl ⟨by rfl, ?_⟩) hHeld ?_ ?_
 rotate_left
 ·rintro w' ⟨s0, s1, s2, s3, s4, s5, s6, s7, s8, s9, s10⟩
  go_simp
  with_reducible rfl
 rotate_left
 ·simp only [Act.put, List.setIfInBounds_toArray, List.set_cons_zero, List.set_cons_succ, i64_w, i32_w]
  rfl
 refine pure_ (i := 13) (N := some 21) (v := ?_) (a' := ?_) #[tt_,tt_,tt_,tt_,tt_,tt_,tt_,tt_,tt_,tt_,ff_,tt_,tt_,tt_,ff_,ff_,tt_,ff_,ff_,ff_,tt_,ff_,tt_,ff_,ff_,ff_,tt_,ff_,ff_,ff_,tt_,ff_,ff_,ff_,ff_,tt_,ff_,ff_,ff_,ff_,ff_,ff_] rfl rfl (by kernel_rfl) (fun _ _ _ h => h) (Or.inl ⟨by rfl, ?_⟩) ?_ ?_
 rotate_left
 ·intro w'
  go_simp
  with_reducible rfl
 rotate_left
 ·simp only [Act.put, List.setIfInBounds_toArray, List.set_cons_zero, List.set_cons_succ, i64_w, i32_w]
  rfl
 refine pure_ (i := 14) (N := some 22) (v := ?_) (a' := ?_) #[tt_,tt_,tt_,tt_,tt_,tt_,tt_,tt_,tt_,tt_,ff_,tt_,tt_,tt_,tt_,ff_,tt_,ff_,ff_,ff_,tt_,ff_,tt_,ff_,ff_,ff_,tt_,ff_,ff_,ff_,tt_,ff_,ff_,ff_,ff_,tt_,ff_,ff_,ff_,ff_,ff_,ff_] rfl rfl (by kernel_rfl) (fun _ _ _ h => h) (Or.inl ⟨by rfl, ?_⟩) ?_ ?_
 rotate_left
 ·intro w'
  go_simp
  with_reducible rfl
 rotate_left
 ·simp only [Act.put, List.setIfInBounds_toArray, List.set_cons_zero, List.set_cons_succ, i64_w, i32_w]
  rfl
 refine take_ (i := 15) (N := some 23) (v := ?_) (a' := ?_) #[tt_,tt_,tt_,tt_,tt_,tt_,tt_,tt_,tt_,tt_,ff_,tt_,tt_,tt_,tt_,tt_,tt_,ff_,ff_,ff_,tt_,ff_,tt_,ff_,ff_,ff_,tt_,ff_,ff_,ff_,tt_,ff_,ff_,ff_,ff_,tt_,ff_,ff_,ff_,ff_,ff_,ff_] rfl rfl (by kernel_rfl) (fun _ _ _ h => h) (Or.inl ⟨by rfl, ?_⟩) hHeld ?_ ?_
 rotate_left
 ·rintro w' ⟨s0, s1, s2, s3, s4, s5, s6, s7, s8, s9, s10⟩
  go_simp
  with_reducible rfl
 rotate_left
 ·simp only [Act.put, List.setIfInBounds_toArray, List.set_cons_zero, List.set_cons_succ, i64_w, i32_w]
  rfl
 refine pure_ (i := 17) (N := some 25) (v := ?_) (a' := ?_) #[tt_,tt_,tt_,tt_,tt_,tt_,tt_,tt_,tt_,tt_,ff_,tt_,tt_,tt_,tt_,tt_,tt_,tt_,ff_,ff_,tt_,ff_,tt_,ff_,ff_,ff_,tt_,ff_,ff_,ff_,tt_,ff_,ff_,ff_,ff_,tt_,ff_,ff_,ff_,ff_,ff_,ff_] rfl rfl (by kernel_rfl) (fun _ _ _ h => h) (Or.inl ⟨by rfl, ?_⟩) ?_ ?_
 rotate_left
 ·intro w'
  go_simp
  with_reducible rfl
 rotate_left
 ·simp only [Act.put, List.setIfInBounds_toArray, List.set_cons_zero, List.set_cons_succ, i64_w, i32_w]
  rfl
 refine take_ (i := 18) (N := some 26) (v := ?_) (a' := ?_) #[tt_,tt_,tt_,tt_,tt_,tt_,tt_,tt_,tt_,tt_,ff_,tt_,tt_,tt_,tt_,tt_,tt_,tt_,tt_,ff_,tt_,ff_,tt_,ff_,ff_,ff_,tt_,ff_,ff_,ff_,tt_,ff_,ff_,ff_,ff_,tt_,ff_,ff_,ff_,ff_,ff_,ff_] rfl rfl (by kernel_rfl) (fun _ _ _ h => h) (Or.inl ⟨by rfl, ?_⟩) hHeld ?_ ?_
 rotate_left
 ·rintro w' ⟨s0, s1, s2, s3, s4, s5, s6, s7, s8, s9, s10⟩
  go_simp
  with_reducible rfl
 rotate_left
 ·simp only [Act.put, List.setIfInBounds_toArray, List.set_cons_zero, List.set_cons_succ, i64_w, i32_w]
  rfl
 refine take_ (i := 21) (N := some 29) (v := ?_) (a' := ?_) #[tt_,tt_,tt_,tt_,tt_,tt_,tt_,tt_,tt_,tt_,ff_,tt_,tt_,tt_,tt_,tt_,tt_,tt_,tt_,ff_,tt_,tt_,tt_,ff_,ff_,ff_,tt_,ff_,ff_,ff_,tt_,ff_,ff_,ff_,ff_,tt_,ff_,ff_,ff_,ff_,ff_,ff_] rfl rfl (by kernel_rfl) (fun _ _ _ h => h) (Or.inl ⟨by rfl, ?_⟩) hHeld ?_ ?_
 rotate_left
 ·rintro w' ⟨s0, s1, s2, s3, s4, s5, s6, s7, s8, s9, s10⟩
  go_simp
  with_reducible rfl
 rotate_left
 ·simp only [Act.put, List.setIfInBounds_toArray, List.set_cons_zero, List.set_cons_succ, i64_w, i32_w]
  rfl
 refine pure_ (i := 23) (N := some 31) (v := ?_) (a' := ?_) #[tt_,tt_,tt_,tt_,tt_,tt_,tt_,tt_,tt_,tt_,ff_,tt_,tt_,tt_,tt_,tt_,tt_,tt_,tt_,ff_,tt_,tt_,tt_,tt_,ff_,ff_,tt_,ff_,ff_,ff_,tt_,ff_,ff_,ff_,ff_,tt_,ff_,ff_,ff_,ff_,ff_,ff_] rfl rfl (by kernel_rfl) (fun _ _ _ h => h) (Or.inl ⟨by rfl, ?_⟩) ?_ ?_
 rotate_left
 ·intro w'
  go_simp
  with_reducible rfl
 rotate_left
 ·simp only [Act.put, List.setIfInBounds_toArray, List.set_cons_zero, List.set_cons_succ, i64_w, i32_w]
  rfl
 refine pure_ (i := 24) (N := some 32) (v := ?_) (a' := ?_) #[tt_,tt_,tt_,tt_,tt_,tt_,tt_,tt_,tt_,tt_,ff_,tt_,tt_,tt_,tt_,tt_,tt_,tt_,tt_,ff_,tt_,tt_,tt_,tt_,tt_,ff_,tt_,ff_,ff_,ff_,tt_,ff_,ff_,ff_,ff_,tt_,ff_,ff_,ff_,ff_,ff_,ff_] rfl rfl (by kernel_rfl) (fun _ _ _ h => h) (Or.inl ⟨by rfl, ?_⟩) ?_ ?_
 rotate_left
 ·intro w'
  go_simp
  with_reducible rfl
 rotate_left
 ·simp only [Act.put, List.setIfInBounds_toArray, List.set_cons_zero, List.set_cons_succ, i64_w, i32_w]
  rfl
 refine take_ (i := 25) (N := some 33) (v := ?_) (a' := ?_) #[tt_,tt_,tt_,tt_,tt_,tt_,tt_,tt_,tt_,tt_,ff_,tt_,tt_,tt_,tt_,tt_,tt_,tt_,tt_,ff_,tt_,tt_,tt_,tt_,tt_,tt_,tt_,ff_,ff_,ff_,tt_,ff_,ff_,ff_,ff_,tt_,ff_,ff_,ff_,ff_,ff_,ff_] rfl rfl (by kernel_rfl) (fun _ _ _ h => h) (Or.inl ⟨by rfl, ?_⟩) hHeld ?_ ?_
 rotate_left
 ·rintro w' ⟨s0, s1, s2, s3, s4, s5, s6, s7, s8, s9, s10⟩
  go_simp
  with_reducible rfl
 rotate_left
 ·simp only [Act.put, List.setIfInBounds_toArray, List.set_cons_zero, List.set_cons_succ, i64_w, i32_w]
  rfl
 refine pure_ (i := 27) (N := some 35) (v := ?_) (a' := ?_) #[tt_,tt_,tt_,tt_,tt_,tt_,tt_,tt_,tt_,tt_,ff_,tt_,tt_,tt_,tt_,tt_,tt_,tt_,tt_,ff_,tt_,tt_,tt_,tt_,tt_,tt_,tt_,tt_,ff_,ff_,tt_,ff_,ff_,ff_,ff_,tt_,ff_,ff_,ff_,ff_,ff_,ff_] rfl rfl (by kernel_rfl) (fun _ _ _ h => h) (Or.inl ⟨by rfl, ?_⟩) ?_ ?_
 rotate_left
 ·intro w'
  go_simp
  with_reducible rfl
 rotate_left
 ·simp only [Act.put, List.setIfInBounds_toArray, List.set_cons_zero, List.set_cons_succ, i64_w, i32_w]
  rfl
 refine take_ (i := 28) (N := some 36) (v := ?_) (a' := ?_) #[tt_,tt_,tt_,tt_,tt_,tt_,tt_,tt_,tt_,tt_,ff_,tt_,tt_,tt_,tt_,tt_,tt_,tt_,tt_,ff_,tt_,tt_,tt_,tt_,tt_,tt_,tt_,tt_,tt_,ff_,tt_,ff_,ff_,ff_,ff_,tt_,ff_,ff_,ff_,ff_,ff_,ff_] rfl rfl (by kernel_rfl) (fun _ _ _ h => h) (Or.inl ⟨by rfl, ?_⟩) hHeld ?_ ?_
 rotate_left
 ·rintro w' ⟨s0, s1, s2, s3, s4, s5, s6, s7, s8, s9, s10⟩
  go_simp
  with_reducible rfl
 rotate_left
 ·simp only [Act.put, List.setIfInBounds_toArray, List.set_cons_zero, List.set_cons_succ, i64_w, i32_w]
  rfl
 refine take_ (i := 31) (N := some 39) (v := ?_) (a' := ?_) #[tt_,tt_,tt_,tt_,tt_,tt_,tt_,tt_,tt_,tt_,ff_,tt_,tt_,tt_,tt_,tt_,tt_,tt_,tt_,ff_,tt_,tt_,tt_,tt_,tt_,tt_,tt_,tt_,tt_,ff_,tt_,tt_,ff_,ff_,ff_,tt_,ff_,ff_,ff_,ff_,ff_,ff_] rfl rfl (by kernel_rfl) (fun _ _ _ h => h) (Or.inl ⟨by rfl, ?_⟩) hHeld ?_ ?_
 rotate_left
 ·rintro w' ⟨s0, s1, s2, s3, s4, s5, s6, s7, s8, s9, s10⟩
  go_simp
  with_reducible rfl
 rotate_left
 ·simp only [Act.put, List.setIfInBounds_toArray, List.set_cons_zero, List.set_cons_succ, i64_w, i32_w]
  rfl
 refine pure_ (i := 32) (N := some 40) (v := ?_) (a' := ?_) #[tt_,tt_,tt_,tt_,tt_,tt_,tt_,tt_,tt_,tt_,ff_,tt_,tt_,tt_,tt_,tt_,tt_,tt_,tt_,ff_,tt_,tt_,tt_,tt_,tt_,tt_,tt_,tt_,tt_,ff_,tt_,tt_,tt_,ff_,ff_,tt_,ff_,ff_,ff_,ff_,ff_,ff_] rfl rfl (by kernel_rfl) (fun _ _ _ h => h) (Or.inl ⟨by rfl, ?_⟩) ?_ ?_
 rotate_left
 ·intro w'
  go_simp
  with_reducible rfl
 rotate_left
 ·simp only [Act.put, List.setIfInBounds_toArray, List.set_cons_zero, List.set_cons_succ, i64_w, i32_w]
  rfl
 refine pure_ (i := 33) (N := some 41) (v := ?_) (a' := ?_) #[tt_,tt_,tt_,tt_,tt_,tt_,tt_,tt_,tt_,tt_,ff_,tt_,tt_,tt_,tt_,tt_,tt_,tt_,tt_,ff_,tt_,tt_,tt_,tt_,tt_,tt_,tt_,tt_,tt_,ff_,tt_,tt_,tt_,tt_,ff_,tt_,ff_,ff_,ff_,ff_,ff_,ff_] rfl rfl (by kernel_rfl) (fun _ _ _ h => h) (Or.inl ⟨by rfl, ?_⟩) ?_ ?_
 rotate_left
 ·intro w'
  go_simp
  with_reducible rfl
 rotate_left
 ·simp only [Act.put, List.setIfInBounds_toArray, List.set_cons_zero, List.set_cons_succ, i64_w, i32_w]
  rfl
 refine take_ (i := 34) (N := some 42) (v := ?_) (a' := ?_) #[tt_,tt_,tt_,tt_,tt_,tt_,tt_,tt_,tt_,tt_,ff_,tt_,tt_,tt_,tt_,tt_,tt_,tt_,tt_,ff_,tt_,tt_,tt_,tt_,tt_,tt_,tt_,tt_,tt_,ff_,tt_,tt_,tt_,tt_,tt_,tt_,ff_,ff_,ff_,ff_,ff_,ff_] rfl rfl (by kernel_rfl) (fun _ _ _ h => h) (Or.inl ⟨by rfl, ?_⟩) hHeld ?_ ?_
 rotate_left
 ·rintro w' ⟨s0, s1, s2, s3, s4, s5, s6, s7, s8, s9, s10⟩
  go_simp
  with_reducible rfl
 rotate_left
 ·simp only [Act.put, List.setIfInBounds_toArray, List.set_cons_zero, List.set_cons_succ, i64_w, i32_w]
  rfl
 refine pure_ (i := 36) (N := some 44) (v := ?_) (a' := ?_) #[tt_,tt_,tt_,tt_,tt_,tt_,tt_,tt_,tt_,tt_,ff_,tt_,tt_,tt_,tt_,tt_,tt_,tt_,tt_,ff_,tt_,tt_,tt_,tt_,tt_,tt_,tt_,tt_,tt_,ff_,tt_,tt_,tt_,tt_,tt_,tt_,tt_,ff_,ff_,ff_,ff_,ff_] rfl rfl (by kernel_rfl) (fun _ _ _ h => h) (Or.inl ⟨by rfl, ?_⟩) ?_ ?_
 rotate_left
 ·intro w'
  go_simp
  with_reducible rfl
 rotate_left
 ·simp only [Act.put, List.setIfInBounds_toArray, List.set_cons_zero, List.set_cons_succ, i64_w, i32_w]
  rfl
 refine take_ (i := 37) (N := some 45) (v := ?_) (a' := ?_) #[tt_,tt_,tt_,tt_,tt_,tt_,tt_,tt_,tt_,tt_,ff_,tt_,tt_,tt_,tt_,tt_,tt_,tt_,tt_,ff_,tt_,tt_,tt_,tt_,tt_,tt_,tt_,tt_,tt_,ff_,tt_,tt_,tt_,tt_,tt_,tt_,tt_,tt_,ff_,ff_,ff_,ff_] rfl rfl (by kernel_rfl) (fun _ _ _ h => h) (Or.inl ⟨by rfl, ?_⟩) hHeld ?_ ?_
 rotate_left
 ·rintro w' ⟨s0, s1, s2, s3, s4, s5, s6, s7, s8, s9, s10⟩
  go_simp
  with_reducible rfl
 rotate_left
 ·simp only [Act.put, List.setIfInBounds_toArray, List.set_cons_zero, List.set_cons_succ, i64_w, i32_w]
  rfl
 refine one_ (i := 10) (N := some 18) #[tt_,tt_,tt_,tt_,tt_,tt_,tt_,tt_,tt_,tt_,tt_,tt_,tt_,tt_,tt_,tt_,tt_,tt_,tt_,ff_,tt_,tt_,tt_,tt_,tt_,tt_,tt_,tt_,tt_,ff_,tt_,tt_,tt_,tt_,tt_,tt_,tt_,tt_,ff_,ff_,ff_,ff_] rfl rfl (by kernel_rfl) (by decide) (fun K hK => ?_)
 refine goes_ Try.func36 (by kernel_rfl) rfl #[.int .u32 (a : Int)] (by rfl) rfl rfl (by (try simp only [List.map_toArray, List.map_cons, List.map_nil]); rfl) ?_
 with_reducible refine (value_calls a Ha.out _).mono ?_
 rintro e_ w2 ⟨va, rfl, hv, hd⟩
 refine ⟨_, rfl, ?_⟩
 have hb := hd.below
 have Va := Aside0.mk hv
 have B_2 := Aside0.mk (below_step B_1.out hb)
 have WY_2 := Aside0.mk (cell_mv WY_1.out hb)
 have PB_2 := Aside0.mk (cell_mv PB_1.out hb)
 have Fa_2 := Aside0.mk (cell_mv Fa_1.out hb)
 have Sa_2 := Aside0.mk (cell_mv Sa_1.out hb)
 have Fb_2 := Aside0.mk (cell_mv Fb_1.out hb)
 have Sb_2 := Aside0.mk (cell_mv Sb_1.out hb)
 have QB_2 := Aside0.mk (cell_mv QB_1.out hb)
 have Fd_2 := Aside0.mk (cell_mv Fd_1.out hb)
 have Sd_2 := Aside0.mk (cell_mv Sd_1.out hb)
 have Fe_2 := Aside0.mk (cell_mv Fe_1.out hb)
 have Se_2 := Aside0.mk (cell_mv Se_1.out hb)
 clear WY_1 PB_1 Fa_1 Sa_1 Fb_1 Sb_1 QB_1 Fd_1 Sd_1 Fe_1 Se_1
 clear hd hv
 clear hb
 refine hK.out _ _ ⟨WY_2.out, PB_2.out, Fa_2.out, Sa_2.out, Fb_2.out, Sb_2.out, QB_2.out, Fd_2.out, Sd_2.out, Fe_2.out, Se_2.out⟩ (fun hHeld => ?_)
 clear hK K
 refine norm_ (a' := ?_) ?_ ?_
 rotate_left
 ·show Act.put _ (some 18) _ = _
  simp only [Act.put, List.setIfInBounds_toArray, List.set_cons_zero, List.set_cons_succ, i64_w, i32_w]
  rfl
 refine one_ (i := 19) (N := some 27) #[tt_,tt_,tt_,tt_,tt_,tt_,tt_,tt_,tt_,tt_,tt_,tt_,tt_,tt_,tt_,tt_,tt_,tt_,tt_,tt_,tt_,tt_,tt_,tt_,tt_,tt_,tt_,tt_,tt_,ff_,tt_,tt_,tt_,tt_,tt_,tt_,tt_,tt_,ff_,ff_,ff_,ff_] rfl rfl (by kernel_rfl) (by decide) (fun K hK => ?_)
 refine goes_ Try.func36 (by kernel_rfl) rfl #[.int .u32 (b : Int)] (by rfl) rfl rfl (by (try simp only [List.map_toArray, List.map_cons, List.map_nil]); rfl) ?_
 with_reducible refine (value_calls b Hb.out _).mono ?_
 rintro e_ w3 ⟨vb, rfl, hv, hd⟩
 refine ⟨_, rfl, ?_⟩
 have hb := hd.below
 have Vb := Aside0.mk hv
 have B_3 := Aside0.mk (below_step B_2.out hb)
 have WY_3 := Aside0.mk (cell_mv WY_2.out hb)
 have PB_3 := Aside0.mk (cell_mv PB_2.out hb)
 have Fa_3 := Aside0.mk (cell_mv Fa_2.out hb)
 have Sa_3 := Aside0.mk (cell_mv Sa_2.out hb)
 have Fb_3 := Aside0.mk (cell_mv Fb_2.out hb)
 have Sb_3 := Aside0.mk (cell_mv Sb_2.out hb)
 have QB_3 := Aside0.mk (cell_mv QB_2.out hb)
 have Fd_3 := Aside0.mk (cell_mv Fd_2.out hb)
 have Sd_3 := Aside0.mk (cell_mv Sd_2.out hb)
 have Fe_3 := Aside0.mk (cell_mv Fe_2.out hb)
 have Se_3 := Aside0.mk (cell_mv Se_2.out hb)
 clear WY_2 PB_2 Fa_2 Sa_2 Fb_2 Sb_2 QB_2 Fd_2 Sd_2 Fe_2 Se_2
 clear hd hv
 clear hb
 refine hK.out _ _ ⟨WY_3.out, PB_3.out, Fa_3.out, Sa_3.out, Fb_3.out, Sb_3.out, QB_3.out, Fd_3.out, Sd_3.out, Fe_3.out, Se_3.out⟩ (fun hHeld => ?_)
 clear hK K
 refine norm_ (a' := ?_) ?_ ?_
 rotate_left
 ·show Act.put _ (some 27) _ = _
  simp only [Act.put, List.setIfInBounds_toArray, List.set_cons_zero, List.set_cons_succ, i64_w, i32_w]
  rfl
 refine one_ (i := 29) (N := some 37) #[tt_,tt_,tt_,tt_,tt_,tt_,tt_,tt_,tt_,tt_,tt_,tt_,tt_,tt_,tt_,tt_,tt_,tt_,tt_,tt_,tt_,tt_,tt_,tt_,tt_,tt_,tt_,tt_,tt_,tt_,tt_,tt_,tt_,tt_,tt_,tt_,tt_,tt_,ff_,ff_,ff_,ff_] rfl rfl (by kernel_rfl) (by decide) (fun K hK => ?_)
 refine goes_ Try.func36 (by kernel_rfl) rfl #[.int .u32 (d : Int)] (by rfl) rfl rfl (by (try simp only [List.map_toArray, List.map_cons, List.map_nil]); rfl) ?_
 with_reducible refine (value_calls d Hd.out _).mono ?_
 rintro e_ w4 ⟨vd, rfl, hv, hd⟩
 refine ⟨_, rfl, ?_⟩
 have hb := hd.below
 have Vd := Aside0.mk hv
 have B_4 := Aside0.mk (below_step B_3.out hb)
 have WY_4 := Aside0.mk (cell_mv WY_3.out hb)
 have PB_4 := Aside0.mk (cell_mv PB_3.out hb)
 have Fa_4 := Aside0.mk (cell_mv Fa_3.out hb)
 have Sa_4 := Aside0.mk (cell_mv Sa_3.out hb)
 have Fb_4 := Aside0.mk (cell_mv Fb_3.out hb)
 have Sb_4 := Aside0.mk (cell_mv Sb_3.out hb)
 have QB_4 := Aside0.mk (cell_mv QB_3.out hb)
 have Fd_4 := Aside0.mk (cell_mv Fd_3.out hb)
 have Sd_4 := Aside0.mk (cell_mv Sd_3.out hb)
 have Fe_4 := Aside0.mk (cell_mv Fe_3.out hb)
 have Se_4 := Aside0.mk (cell_mv Se_3.out hb)
 clear WY_3 PB_3 Fa_3 Sa_3 Fb_3 Sb_3 QB_3 Fd_3 Sd_3 Fe_3 Se_3
 clear hd hv
 clear hb
 refine hK.out _ _ ⟨WY_4.out, PB_4.out, Fa_4.out, Sa_4.out, Fb_4.out, Sb_4.out, QB_4.out, Fd_4.out, Sd_4.out, Fe_4.out, Se_4.out⟩ (fun hHeld => ?_)
 clear hK K
 refine norm_ (a' := ?_) ?_ ?_
 rotate_left
 ·show Act.put _ (some 37) _ = _
  simp only [Act.put, List.setIfInBounds_toArray, List.set_cons_zero, List.set_cons_succ, i64_w, i32_w]
  rfl
 refine one_ (i := 38) (N := some 46) #[tt_,tt_,tt_,tt_,tt_,tt_,tt_,tt_,tt_,tt_,tt_,tt_,tt_,tt_,tt_,tt_,tt_,tt_,tt_,tt_,tt_,tt_,tt_,tt_,tt_,tt_,tt_,tt_,tt_,tt_,tt_,tt_,tt_,tt_,tt_,tt_,tt_,tt_,tt_,ff_,ff_,ff_] rfl rfl (by kernel_rfl) (by decide) (fun K hK => ?_)
 refine goes_ Try.func36 (by kernel_rfl) rfl #[.int .u32 (e : Int)] (by rfl) rfl rfl (by (try simp only [List.map_toArray, List.map_cons, List.map_nil]); rfl) ?_
 with_reducible refine (value_calls e He.out _).mono ?_
 rintro e_ w5 ⟨ve, rfl, hv, hd⟩
 refine ⟨_, rfl, ?_⟩
 have hb := hd.below
 have Ve := Aside0.mk hv
 have B_5 := Aside0.mk (below_step B_4.out hb)
 have WY_5 := Aside0.mk (cell_mv WY_4.out hb)
 have PB_5 := Aside0.mk (cell_mv PB_4.out hb)
 have Fa_5 := Aside0.mk (cell_mv Fa_4.out hb)
 have Sa_5 := Aside0.mk (cell_mv Sa_4.out hb)
 have Fb_5 := Aside0.mk (cell_mv Fb_4.out hb)
 have Sb_5 := Aside0.mk (cell_mv Sb_4.out hb)
 have QB_5 := Aside0.mk (cell_mv QB_4.out hb)
 have Fd_5 := Aside0.mk (cell_mv Fd_4.out hb)
 have Sd_5 := Aside0.mk (cell_mv Sd_4.out hb)
 have Fe_5 := Aside0.mk (cell_mv Fe_4.out hb)
 have Se_5 := Aside0.mk (cell_mv Se_4.out hb)
 clear WY_4 PB_4 Fa_4 Sa_4 Fb_4 Sb_4 QB_4 Fd_4 Sd_4 Fe_4 Se_4
 clear hd hv
 clear hb
 refine hK.out _ _ ⟨WY_5.out, PB_5.out, Fa_5.out, Sa_5.out, Fb_5.out, Sb_5.out, QB_5.out, Fd_5.out, Sd_5.out, Fe_5.out, Se_5.out⟩ (fun hHeld => ?_)
 clear hK K
 refine norm_ (a' := ?_) ?_ ?_
 rotate_left
 ·show Act.put _ (some 46) _ = _
  simp only [Act.put, List.setIfInBounds_toArray, List.set_cons_zero, List.set_cons_succ, i64_w, i32_w]
  rfl
 refine one_ (i := 39) (N := some 47) #[tt_,tt_,tt_,tt_,tt_,tt_,tt_,tt_,tt_,tt_,tt_,tt_,tt_,tt_,tt_,tt_,tt_,tt_,tt_,tt_,tt_,tt_,tt_,tt_,tt_,tt_,tt_,tt_,tt_,tt_,tt_,tt_,tt_,tt_,tt_,tt_,tt_,tt_,tt_,tt_,ff_,ff_] rfl rfl (by kernel_rfl) (by decide) (fun K hK => ?_)
 refine goesV0_ Try.func87 (by kernel_rfl) rfl #[.float .f64 va, .float .f64 vb, .float .f64 vd, .float .f64 ve] (by rfl) rfl rfl (by rfl) (by (try simp only [List.map_toArray, List.map_cons, List.map_nil]); rfl) ?_
 refine (wy1_calls va vb vd ve _ _ _ _ Va.out Vb.out Vd.out Ve.out _).mono ?_
 rintro e_ w6 ⟨vx, rfl, hv, hd⟩
 refine ⟨_, rfl, ?_⟩
 have hb := hd.below
 have VX := Aside0.mk hv
 have B_6 := Aside0.mk (below_step B_5.out hb)
 have WY_6 := Aside0.mk (cell_mv WY_5.out hb)
 have PB_6 := Aside0.mk (cell_mv PB_5.out hb)
 have Fa_6 := Aside0.mk (cell_mv Fa_5.out hb)
 have Sa_6 := Aside0.mk (cell_mv Sa_5.out hb)
 have Fb_6 := Aside0.mk (cell_mv Fb_5.out hb)
 have Sb_6 := Aside0.mk (cell_mv Sb_5.out hb)
 have QB_6 := Aside0.mk (cell_mv QB_5.out hb)
 have Fd_6 := Aside0.mk (cell_mv Fd_5.out hb)
 have Sd_6 := Aside0.mk (cell_mv Sd_5.out hb)
 have Fe_6 := Aside0.mk (cell_mv Fe_5.out hb)
 have Se_6 := Aside0.mk (cell_mv Se_5.out hb)
 clear WY_5 PB_5 Fa_5 Sa_5 Fb_5 Sb_5 QB_5 Fd_5 Sd_5 Fe_5 Se_5
 clear hb hd hv
 refine hK.out _ _ ⟨WY_6.out, PB_6.out, Fa_6.out, Sa_6.out, Fb_6.out, Sb_6.out, QB_6.out, Fd_6.out, Sd_6.out, Fe_6.out, Se_6.out⟩ (fun hHeld => ?_)
 clear hK K
 refine norm_ (a' := ?_) ?_ ?_
 rotate_left
 ·show Act.put _ (some 47) _ = _
  simp only [Act.put, List.setIfInBounds_toArray, List.set_cons_zero, List.set_cons_succ, i64_w, i32_w]
  rfl
 refine one_ (i := 40) (N := some 48) #[tt_,tt_,tt_,tt_,tt_,tt_,tt_,tt_,tt_,tt_,tt_,tt_,tt_,tt_,tt_,tt_,tt_,tt_,tt_,tt_,tt_,tt_,tt_,tt_,tt_,tt_,tt_,tt_,tt_,tt_,tt_,tt_,tt_,tt_,tt_,tt_,tt_,tt_,tt_,tt_,tt_,ff_] rfl rfl (by kernel_rfl) (by decide) (fun K hK => ?_)
 refine goes_ Try.func35 (by kernel_rfl) rfl #[.float .f64 vx] (by rfl) rfl rfl (by (try simp only [List.map_toArray, List.map_cons, List.map_nil]); rfl) ?_
 with_reducible refine (told_calls vx _ VX.out HN.out _).mono ?_
 rintro e_ w7 ⟨rfl, hb⟩
 refine ⟨_, rfl, ?_⟩
 have B_7 := Aside0.mk (below_step B_6.out hb)
 have WY_7 := Aside0.mk (cell_mv WY_6.out hb)
 have PB_7 := Aside0.mk (cell_mv PB_6.out hb)
 have Fa_7 := Aside0.mk (cell_mv Fa_6.out hb)
 have Sa_7 := Aside0.mk (cell_mv Sa_6.out hb)
 have Fb_7 := Aside0.mk (cell_mv Fb_6.out hb)
 have Sb_7 := Aside0.mk (cell_mv Sb_6.out hb)
 have QB_7 := Aside0.mk (cell_mv QB_6.out hb)
 have Fd_7 := Aside0.mk (cell_mv Fd_6.out hb)
 have Sd_7 := Aside0.mk (cell_mv Sd_6.out hb)
 have Fe_7 := Aside0.mk (cell_mv Fe_6.out hb)
 have Se_7 := Aside0.mk (cell_mv Se_6.out hb)
 clear WY_6 PB_6 Fa_6 Sa_6 Fb_6 Sb_6 QB_6 Fd_6 Sd_6 Fe_6 Se_6
 clear hb
 refine hK.out _ _ ⟨WY_7.out, PB_7.out, Fa_7.out, Sa_7.out, Fb_7.out, Sb_7.out, QB_7.out, Fd_7.out, Sd_7.out, Fe_7.out, Se_7.out⟩ (fun hHeld => ?_)
 clear hK K
 refine norm_ (a' := ?_) ?_ ?_
 rotate_left
 ·show Act.put _ (some 48) _ = _
  simp only [Act.put, List.setIfInBounds_toArray, List.set_cons_zero, List.set_cons_succ, i64_w, i32_w]
  rfl
 refine pure_ (i := 41) (N := some 7) (v := ?_) (a' := ?_) #[tt_,tt_,tt_,tt_,tt_,tt_,tt_,tt_,tt_,tt_,tt_,tt_,tt_,tt_,tt_,tt_,tt_,tt_,tt_,tt_,tt_,tt_,tt_,tt_,tt_,tt_,tt_,tt_,tt_,tt_,tt_,tt_,tt_,tt_,tt_,tt_,tt_,tt_,tt_,tt_,tt_,tt_] rfl rfl (by kernel_rfl) (fun _ _ _ h => h) (Or.inl ⟨by rfl, ?_⟩) ?_ ?_
 rotate_left
 ·intro w'
  go_simp
  with_reducible rfl
 rotate_left
 ·simp only [Act.put, List.setIfInBounds_toArray, List.set_cons_zero, List.set_cons_succ, i64_w, i32_w]
  rfl
 refine done_ (by kernel_rfl) ?_
 go_wp2
 go_ret
 exact ⟨rfl, B_7.out⟩
theorem alph_calls (sp : Int) (A : Option Addr) (c : Nat) (ss : List Nat) (k g2 g3 : Nat) (h4 : ss.length = 4) (W : World) (hg : W.heap[g2]? = some (.cells #[.int .i64 sp, .slice A 4 c] 33 (0, 0))) (h : Pc W A c ss) (fi : FuncId) (fn : Func) (hf : Try.prog.funcs[fi]? = some fn) (hname : (fn.name == "runtime.NumGoroutine") = false) (hbody : fn.body.isSome = true) (hk : k < 3) (hw : W.heap[g3]? = some (.cells #[.func (.func fi) #[] #[]] 91 (0, 0))) (G : Nat) (hG : ∀ W1, Below W.heap.size W W1 → Calls Try.prog fi #[.int .u32 ((gt ss k : Nat) : Int), .int .u32 ((gt ss 3 : Nat) : Int)] W1 fun e w' => e = .returned (.int .u32 (G : Int)) ∧ Below W1.heap.size W1 w') :
    Calls Try.prog 82 #[.int .i64 (k : Int), .int .i64 0, .pointer (some ⟨g2, 0, none⟩), .pointer (some ⟨g3, 0, none⟩)] W fun e w' => e = .returned (.int .u32 (G : Int)) ∧ Below W.heap.size W w' := by
 have HF : Aside0 (Try.prog.funcs[fi]? = some fn ∧ (fn.name == "runtime.NumGoroutine") = false ∧ fn.body.isSome = true) := ⟨⟨hf, hname, hbody⟩⟩
 obtain ⟨ad, Aa, ca, rfl, _, _, k2a, _, hsa⟩ := h.at_ k (by omega)
 obtain ⟨adb, Ab, cb, hAb, _, _, k2b, _, hsb⟩ := h.at_ 3 (by omega)
 obtain rfl : ad = adb := by injection hAb
 obtain ⟨a, hva⟩ : ∃ s, gt ss k = s := ⟨_, rfl⟩
 obtain ⟨b, hvb⟩ : ∃ s, gt ss 3 = s := ⟨_, rfl⟩
 rw [hva] at hsa
 rw [hvb] at hsb
 rw [hva, hvb] at hG
 have HG := Aside0.mk hG
 have e1k : decide ((0 : Int) ≤ (k : Int)) = true := decide_eq_true (by omega)
 have e2k : decide ((k : Int) < (4 : Int)) = true := decide_eq_true (by omega)
 have e5k : ((0 : Int) ≤ (k : Int)) = True := eq_true (by omega)
 have e6k : ((k : Int) < (4 : Int)) = True := eq_true (by omega)
 have e7k : (k < 4) = True := eq_true (by omega)
 have ek : ((k : Int) == 3) = false := by rw [beq_eq_false_iff_ne]; omega
 have ek2 : decide ((k : Int) = 3) = false := decide_eq_false (by omega)
 have ek3 : (k = 3) = False := eq_false (by omega)
 have B_0 : Aside0 (Below W.heap.size W W) := ⟨Below.refl _ _⟩
 have FB_0 := Aside0.mk ((blk_cell hw 0).trans rfl)
 have PB_0 := Aside0.mk ((blk_cell hg 1).trans rfl)
 have Fa_0 := Aside0.mk (show W.cell? ⟨(ad.add (k * 3)).block, (ad.add (k * 3)).off + 2, none⟩ = some (.slice (some Aa) 1 ca) from k2a)
 have Sa_0 := Aside0.mk (hsa)
 have Fb_0 := Aside0.mk (show W.cell? ⟨ad.block, ad.off + 9 + 2, none⟩ = some (.slice (some Ab) 1 cb) from k2b)
 have Sb_0 := Aside0.mk (hsb)
 clear hw hg h hG hva hvb hk h4 k2a k2b hsa hsb hf hname hbody hAb
 go_enter Try.func82, Try.ntmps82
 go_wp2
 have B_1 : Aside0 (Below W.heap.size W W.drew) := ⟨below_drew B_0.out⟩
 have FB_1 := Aside0.mk (cell_mv FB_0.out (below_drew (Below.refl _ _)))
 have PB_1 := Aside0.mk (cell_mv PB_0.out (below_drew (Below.refl _ _)))
 have Fa_1 := Aside0.mk (cell_mv Fa_0.out (below_drew (Below.refl _ _)))
 have Sa_1 := Aside0.mk (cell_mv Sa_0.out (below_drew (Below.refl _ _)))
 have Fb_1 := Aside0.mk (cell_mv Fb_0.out (below_drew (Below.refl _ _)))
 have Sb_1 := Aside0.mk (cell_mv Sb_0.out (below_drew (Below.refl _ _)))
 clear B_0 FB_0 PB_0 Fa_0 Sa_0 Fb_0 Sb_0
 refine start_ (n := 20) (S := fun w' => w'.cell? ⟨g3, 0, none⟩ = some (.func (.func fi) #[] #[]) ∧ w'.cell? ⟨g2, 1, none⟩ = some (.slice (some ad) 4 c) ∧ w'.cell? ⟨(ad.add (k * 3)).block, (ad.add (k * 3)).off + 2, none⟩ = some (.slice (some Aa) 1 ca) ∧ w'.cell? Aa = some (.int .u32 (a : Int)) ∧ w'.cell? ⟨ad.block, ad.off + 9 + 2, none⟩ = some (.slice (some Ab) 1 cb) ∧ w'.cell? Ab = some (.int .u32 (b : Int))) (ds := []) #[ff_,ff_,ff_,ff_,ff_,ff_,ff_,ff_,ff_,ff_,ff_,ff_,ff_,ff_,ff_,ff_,ff_,ff_,ff_,ff_] (by kernel_rfl) rfl rfl ⟨FB_1.out, PB_1.out, Fa_1.out, Sa_1.out, Fb_1.out, Sb_1.out⟩ (fun hHeld => ?_)
 generalize W.drew = w1 at *
 refine pure_ (i := 1) (N := some 18) (v := ?_) (a' := ?_) #[ff_,tt_,ff_,ff_,ff_,ff_,ff_,ff_,ff_,ff_,ff_,ff_,ff_,ff_,ff_,ff_,ff_,ff_,ff_,ff_] rfl rfl (by kernel_rfl) (fun _ _ _ h => h) (Or.inl ⟨by rfl, ?_⟩) ?_ ?_
 rotate_left
 ·intro w'
  go_simp
  with_reducible rfl
 rotate_left
 ·simp only [Act.put, List.setIfInBounds_toArray, List.set_cons_zero, List.set_cons_succ, i64_w, i32_w]
  rfl
 refine pure_ (i := 3) (N := some 20) (v := ?_) (a' := ?_) #[ff_,tt_,ff_,tt_,ff_,ff_,ff_,ff_,ff_,ff_,ff_,ff_,ff_,ff_,ff_,ff_,ff_,ff_,ff_,ff_] rfl rfl (by kernel_rfl) (fun _ _ _ h => h) (Or.inl ⟨by rfl, ?_⟩) ?_ ?_
 rotate_left
 ·intro w'
  go_simp
  with_reducible rfl
 rotate_left
 ·simp only [Act.put, List.setIfInBounds_toArray, List.set_cons_zero, List.set_cons_succ, i64_w, i32_w]
  rfl
 refine pure_ (i := 7) (N := some 24) (v := ?_) (a' := ?_) #[ff_,tt_,ff_,tt_,ff_,ff_,ff_,tt_,ff_,ff_,ff_,ff_,ff_,ff_,ff_,ff_,ff_,ff_,ff_,ff_] rfl rfl (by kernel_rfl) (fun _ _ _ h => h) (Or.inl ⟨by rfl, ?_⟩) ?_ ?_
 rotate_left
 ·intro w'
  go_simp
  with_reducible rfl
 rotate_left
 ·simp only [Act.put, List.setIfInBounds_toArray, List.set_cons_zero, List.set_cons_succ, i64_w, i32_w]
  rfl
 refine pure_ (i := 10) (N := some 27) (v := ?_) (a' := ?_) #[ff_,tt_,ff_,tt_,ff_,ff_,ff_,tt_,ff_,ff_,tt_,ff_,ff_,ff_,ff_,ff_,ff_,ff_,ff_,ff_] rfl rfl (by kernel_rfl) (fun _ _ _ h => h) (Or.inl ⟨by rfl, ?_⟩) ?_ ?_
 rotate_left
 ·intro w'
  go_simp
  with_reducible rfl
 rotate_left
 ·simp only [Act.put, List.setIfInBounds_toArray, List.set_cons_zero, List.set_cons_succ, i64_w, i32_w]
  rfl
 refine pure_ (i := 15) (N := some 32) (v := ?_) (a' := ?_) #[ff_,tt_,ff_,tt_,ff_,ff_,ff_,tt_,ff_,ff_,tt_,ff_,ff_,ff_,ff_,tt_,ff_,ff_,ff_,ff_] rfl rfl (by kernel_rfl) (fun _ _ _ h => h) (Or.inl ⟨by rfl, ?_⟩) ?_ ?_
 rotate_left
 ·intro w'
  go_simp
  with_reducible rfl
 rotate_left
 ·simp only [Act.put, List.setIfInBounds_toArray, List.set_cons_zero, List.set_cons_succ, i64_w, i32_w]
  rfl
 refine take_ (i := 0) (N := some 17) (v := ?_) (a' := ?_) #[tt_,tt_,ff_,tt_,ff_,ff_,ff_,tt_,ff_,ff_,tt_,ff_,ff_,ff_,ff_,tt_,ff_,ff_,ff_,ff_] rfl rfl (by kernel_rfl) (fun _ _ _ h => h) (Or.inl ⟨by rfl, ?_⟩) hHeld ?_ ?_
 rotate_left
 ·rintro w' ⟨s0, s1, s2, s3, s4, s5⟩
  go_simp
  with_reducible rfl
 rotate_left
 ·simp only [Act.put, List.setIfInBounds_toArray, List.set_cons_zero, List.set_cons_succ, i64_w, i32_w]
  rfl
 refine take_ (i := 2) (N := some 19) (v := ?_) (a' := ?_) #[tt_,tt_,tt_,tt_,ff_,ff_,ff_,tt_,ff_,ff_,tt_,ff_,ff_,ff_,ff_,tt_,ff_,ff_,ff_,ff_] rfl rfl (by kernel_rfl) (fun _ _ _ h => h) (Or.inl ⟨by rfl, ?_⟩) hHeld ?_ ?_
 rotate_left
 ·rintro w' ⟨s0, s1, s2, s3, s4, s5⟩
  go_simp
  with_reducible rfl
 rotate_left
 ·simp only [Act.put, List.setIfInBounds_toArray, List.set_cons_zero, List.set_cons_succ, i64_w, i32_w]
  rfl
 refine pure_ (i := 4) (N := some 21) (v := ?_) (a' := ?_) #[tt_,tt_,tt_,tt_,tt_,ff_,ff_,tt_,ff_,ff_,tt_,ff_,ff_,ff_,ff_,tt_,ff_,ff_,ff_,ff_] rfl rfl (by kernel_rfl) (fun _ _ _ h => h) (Or.inl ⟨by rfl, ?_⟩) ?_ ?_
 rotate_left
 ·intro w'
  go_simp
  with_reducible rfl
 rotate_left
 ·simp only [Act.put, List.setIfInBounds_toArray, List.set_cons_zero, List.set_cons_succ, i64_w, i32_w]
  rfl
 refine pure_ (i := 5) (N := some 22) (v := ?_) (a' := ?_) #[tt_,tt_,tt_,tt_,tt_,tt_,ff_,tt_,ff_,ff_,tt_,ff_,ff_,ff_,ff_,tt_,ff_,ff_,ff_,ff_] rfl rfl (by kernel_rfl) (fun _ _ _ h => h) (Or.inl ⟨by rfl, ?_⟩) ?_ ?_
 rotate_left
 ·intro w'
  go_simp
  with_reducible rfl
 rotate_left
 ·simp only [Act.put, List.setIfInBounds_toArray, List.set_cons_zero, List.set_cons_succ, i64_w, i32_w]
  rfl
 refine take_ (i := 6) (N := some 23) (v := ?_) (a' := ?_) #[tt_,tt_,tt_,tt_,tt_,tt_,tt_,tt_,ff_,ff_,tt_,ff_,ff_,ff_,ff_,tt_,ff_,ff_,ff_,ff_] rfl rfl (by kernel_rfl) (fun _ _ _ h => h) (Or.inl ⟨by rfl, ?_⟩) hHeld ?_ ?_
 rotate_left
 ·rintro w' ⟨s0, s1, s2, s3, s4, s5⟩
  go_simp
  with_reducible rfl
 rotate_left
 ·simp only [Act.put, List.setIfInBounds_toArray, List.set_cons_zero, List.set_cons_succ, i64_w, i32_w]
  rfl
 refine pure_ (i := 8) (N := some 25) (v := ?_) (a' := ?_) #[tt_,tt_,tt_,tt_,tt_,tt_,tt_,tt_,tt_,ff_,tt_,ff_,ff_,ff_,ff_,tt_,ff_,ff_,ff_,ff_] rfl rfl (by kernel_rfl) (fun _ _ _ h => h) (Or.inl ⟨by rfl, ?_⟩) ?_ ?_
 rotate_left
 ·intro w'
  go_simp
  with_reducible rfl
 rotate_left
 ·simp only [Act.put, List.setIfInBounds_toArray, List.set_cons_zero, List.set_cons_succ, i64_w, i32_w]
  rfl
 refine take_ (i := 9) (N := some 26) (v := ?_) (a' := ?_) #[tt_,tt_,tt_,tt_,tt_,tt_,tt_,tt_,tt_,tt_,tt_,ff_,ff_,ff_,ff_,tt_,ff_,ff_,ff_,ff_] rfl rfl (by kernel_rfl) (fun _ _ _ h => h) (Or.inl ⟨by rfl, ?_⟩) hHeld ?_ ?_
 rotate_left
 ·rintro w' ⟨s0, s1, s2, s3, s4, s5⟩
  go_simp
  with_reducible rfl
 rotate_left
 ·simp only [Act.put, List.setIfInBounds_toArray, List.set_cons_zero, List.set_cons_succ, i64_w, i32_w]
  rfl
 refine take_ (i := 11) (N := some 28) (v := ?_) (a' := ?_) #[tt_,tt_,tt_,tt_,tt_,tt_,tt_,tt_,tt_,tt_,tt_,tt_,ff_,ff_,ff_,tt_,ff_,ff_,ff_,ff_] rfl rfl (by kernel_rfl) (fun _ _ _ h => h) (Or.inl ⟨by rfl, ?_⟩) hHeld ?_ ?_
 rotate_left
 ·rintro w' ⟨s0, s1, s2, s3, s4, s5⟩
  go_simp
  with_reducible rfl
 rotate_left
 ·simp only [Act.put, List.setIfInBounds_toArray, List.set_cons_zero, List.set_cons_succ, i64_w, i32_w]
  rfl
 refine pure_ (i := 12) (N := some 29) (v := ?_) (a' := ?_) #[tt_,tt_,tt_,tt_,tt_,tt_,tt_,tt_,tt_,tt_,tt_,tt_,tt_,ff_,ff_,tt_,ff_,ff_,ff_,ff_] rfl rfl (by kernel_rfl) (fun _ _ _ h => h) (Or.inl ⟨by rfl, ?_⟩) ?_ ?_
 rotate_left
 ·intro w'
  go_simp
  with_reducible rfl
 rotate_left
 ·simp only [Act.put, List.setIfInBounds_toArray, List.set_cons_zero, List.set_cons_succ, i64_w, i32_w]
  rfl
 refine pure_ (i := 13) (N := some 30) (v := ?_) (a' := ?_) #[tt_,tt_,tt_,tt_,tt_,tt_,tt_,tt_,tt_,tt_,tt_,tt_,tt_,tt_,ff_,tt_,ff_,ff_,ff_,ff_] rfl rfl (by kernel_rfl) (fun _ _ _ h => h) (Or.inl ⟨by rfl, ?_⟩) ?_ ?_
 rotate_left
 ·intro w'
  go_simp
  with_reducible rfl
 rotate_left
 ·simp only [Act.put, List.setIfInBounds_toArray, List.set_cons_zero, List.set_cons_succ, i64_w, i32_w]
  rfl
 refine take_ (i := 14) (N := some 31) (v := ?_) (a' := ?_) #[tt_,tt_,tt_,tt_,tt_,tt_,tt_,tt_,tt_,tt_,tt_,tt_,tt_,tt_,tt_,tt_,ff_,ff_,ff_,ff_] rfl rfl (by kernel_rfl) (fun _ _ _ h => h) (Or.inl ⟨by rfl, ?_⟩) hHeld ?_ ?_
 rotate_left
 ·rintro w' ⟨s0, s1, s2, s3, s4, s5⟩
  go_simp
  with_reducible rfl
 rotate_left
 ·simp only [Act.put, List.setIfInBounds_toArray, List.set_cons_zero, List.set_cons_succ, i64_w, i32_w]
  rfl
 refine pure_ (i := 16) (N := some 33) (v := ?_) (a' := ?_) #[tt_,tt_,tt_,tt_,tt_,tt_,tt_,tt_,tt_,tt_,tt_,tt_,tt_,tt_,tt_,tt_,tt_,ff_,ff_,ff_] rfl rfl (by kernel_rfl) (fun _ _ _ h => h) (Or.inl ⟨by rfl, ?_⟩) ?_ ?_
 rotate_left
 ·intro w'
  go_simp
  with_reducible rfl
 rotate_left
 ·simp only [Act.put, List.setIfInBounds_toArray, List.set_cons_zero, List.set_cons_succ, i64_w, i32_w]
  rfl
 refine take_ (i := 17) (N := some 34) (v := ?_) (a' := ?_) #[tt_,tt_,tt_,tt_,tt_,tt_,tt_,tt_,tt_,tt_,tt_,tt_,tt_,tt_,tt_,tt_,tt_,tt_,ff_,ff_] rfl rfl (by kernel_rfl) (fun _ _ _ h => h) (Or.inl ⟨by rfl, ?_⟩) hHeld ?_ ?_
 rotate_left
 ·rintro w' ⟨s0, s1, s2, s3, s4, s5⟩
  go_simp
  with_reducible rfl
 rotate_left
 ·simp only [Act.put, List.setIfInBounds_toArray, List.set_cons_zero, List.set_cons_succ, i64_w, i32_w]
  rfl
 refine one_ (i := 18) (N := some 35) #[tt_,tt_,tt_,tt_,tt_,tt_,tt_,tt_,tt_,tt_,tt_,tt_,tt_,tt_,tt_,tt_,tt_,tt_,tt_,ff_] rfl rfl (by kernel_rfl) (by decide) (fun K hK => ?_)
 refine goesV0_ HF.out.1 HF.out.2.1 HF.out.2.2 #[.int .u32 (a : Int), .int .u32 (b : Int)] (by rfl) rfl rfl (by rfl) (by (try simp only [List.map_toArray, List.map_cons, List.map_nil]); rfl) ?_
 refine (HG.out _ B_1.out).mono ?_
 rintro e_ w2 ⟨rfl, hb⟩
 refine ⟨_, rfl, ?_⟩
 have B_2 := Aside0.mk (below_step B_1.out hb)
 have FB_2 := Aside0.mk (cell_mv FB_1.out hb)
 have PB_2 := Aside0.mk (cell_mv PB_1.out hb)
 have Fa_2 := Aside0.mk (cell_mv Fa_1.out hb)
 have Sa_2 := Aside0.mk (cell_mv Sa_1.out hb)
 have Fb_2 := Aside0.mk (cell_mv Fb_1.out hb)
 have Sb_2 := Aside0.mk (cell_mv Sb_1.out hb)
 clear FB_1 PB_1 Fa_1 Sa_1 Fb_1 Sb_1
 clear hb
 refine hK.out _ _ ⟨FB_2.out, PB_2.out, Fa_2.out, Sa_2.out, Fb_2.out, Sb_2.out⟩ (fun hHeld => ?_)
 clear hK K
 refine norm_ (a' := ?_) ?_ ?_
 rotate_left
 ·show Act.put _ (some 35) _ = _
  simp only [Act.put, List.setIfInBounds_toArray, List.set_cons_zero, List.set_cons_succ, i64_w, i32_w]
  rfl
 refine pure_ (i := 19) (N := some 6) (v := ?_) (a' := ?_) #[tt_,tt_,tt_,tt_,tt_,tt_,tt_,tt_,tt_,tt_,tt_,tt_,tt_,tt_,tt_,tt_,tt_,tt_,tt_,tt_] rfl rfl (by kernel_rfl) (fun _ _ _ h => h) (Or.inl ⟨by rfl, ?_⟩) ?_ ?_
 rotate_left
 ·intro w'
  go_simp
  with_reducible rfl
 rotate_left
 ·simp only [Act.put, List.setIfInBounds_toArray, List.set_cons_zero, List.set_cons_succ, i64_w, i32_w]
  rfl
 refine done_ (by kernel_rfl) ?_
 go_wp2
 go_ret
 exact ⟨rfl, B_2.out⟩
theorem alph3_calls (sp : Int) (A : Option Addr) (c : Nat) (ss : List Nat) (g2 g3 : Nat) (h4 : ss.length = 4) (W : World) (hg : W.heap[g2]? = some (.cells #[.int .i64 sp, .slice A 4 c] 33 (0, 0))) (h : Pc W A c ss) : Calls Try.prog 82 #[.int .i64 3, .int .i64 0, .pointer (some ⟨g2, 0, none⟩), .pointer (some ⟨g3, 0, none⟩)] W fun e w' => e = .returned (.int .u32 ((gt ss 3 : Nat) : Int)) ∧ Below W.heap.size W w' := by
 obtain ⟨ad, Ab, cb, rfl, _, _, k2b, _, hsb⟩ := h.at_ 3 (by omega)
 have k2b' : W.cell? ⟨ad.block, ad.off + 9 + 2, none⟩ = some (.slice (some Ab) 1 cb) := k2b
 obtain ⟨b, hvb⟩ : ∃ s, gt ss 3 = s := ⟨_, rfl⟩
 rw [hvb] at hsb ⊢
 have p1 := (blk_cell hg 1).trans rfl
 have B_0 : Aside0 (Below W.heap.size W W) := ⟨Below.refl _ _⟩
 clear hg h hvb h4 k2b
 go_enter Try.func82, Try.ntmps82
 go_wp2
 go_ret
 exact ⟨rfl, B_0.out⟩
def dv (s a : Nat) : Nat := if eqv a 0 = true then 0 else nr (floatBits .quo .f32 s a)
theorem div1_calls (s a : Nat) (ha : a < 4294967296) (hD : ∀ r, floatBits .quo .f32 s a = some r → r < 4294967296) (w : World) : Calls Try.prog 60 #[.int .u32 (s : Int), .int .u32 (a : Int)] w fun e w' => e = .returned (.int .u32 ((dv s a : Nat) : Int)) ∧ Below w.heap.size w w' := by
 have HA := Aside0.mk ha
 have HD := Aside0.mk hD
 have HE : Aside0 (∀ W, Calls Try.prog 61 #[.int .u32 (a : Int), .int .u32 0] W fun e w' => e = .returned (.bool (eqv a 0)) ∧ w' = W) := ⟨fun W => Equal_calls a 0 ha (by decide) W⟩
 unfold dv
 clear ha hD
 cases he : eqv a 0 with
 | true =>
  rw [he] at HE
  clear he
  go_enter Try.func60, Try.ntmps60
  go_wp2_with (go_at_call 61; refine (HE.out _).mono ?_; rintro e _ ⟨rfl, rfl⟩)
  go_ret
  exact ⟨rfl, Below.refl _ _⟩
 | false =>
  rw [he] at HE
  clear he
  simp only [Bool.false_eq_true, if_false]
  go_enter Try.func60, Try.ntmps60
  go_wp2_with (first | (go_at_call 61; refine (HE.out _).mono ?_; rintro e _ ⟨rfl, rfl⟩) | (go_at_call 62; refine (Div_calls s a HD.out _).mono ?_; rintro e w1 ⟨rfl, hd⟩; have B1 := Aside0.mk hd.below; clear hd))
  go_ret
  exact ⟨rfl, B1.out⟩
end Go.Proofs.Ytjlciehcddanpaa.A
end
section
set_option linter.unusedVariables false
set_option linter.unusedSimpArgs false
set_option linter.unusedSectionVars false
namespace Go.Proofs.Ytjlciehcddanpaa.A
open Go.RowKit Go.Shelf Go.Proofs.YtjlciehcddanpaaW.PrintWords Go.Proofs.YtjlciehcddanpaaW.PrintLast Go.Proofs.YtjlciehcddanpaaW.PrintMore Go.Proofs.Ytjlciehcddanpaa.PMixNames

set_option maxRecDepth 100000
theorem four {ss : List Nat} (h : ss.length = 4) : ∃ a b c d, ss = [a, b, c, d] := by
 match ss, h with
 | [a, b, c, d], _ => exact ⟨a, b, c, d, rfl⟩
theorem check_f (a b c d : Nat) : picture_Check.f 50 1 ([a, b, c, d].map pl) = some 0 := by kernel_rfl
theorem both_f (a b c d a' b' c' d' : Nat) : mix_both.f 50 1 ([a, b, c, d].map pl) 1 ([a', b', c', d'].map pl) = some 0 := by kernel_rfl
theorem sized_f (a b c d a' b' c' d' : Nat) : mix_sized.f 1 ([a, b, c, d].map pl) 1 ([a', b', c', d'].map pl) = some true := by kernel_rfl
theorem check_calls (A : Option Addr) (c : Nat) (ss : List Nat) (h4 : ss.length = 4) (w : World) (h : Pc w A c ss) : Calls Try.prog 63 #[.agg #[.int .i64 1, .slice A 4 c]] w fun e w' => e = .returned (.int .i64 0) ∧ Below w.heap.size w w' := by
 have hf : picture_Check.f 50 1 (ss.map pl) = some 0 := by
  obtain ⟨x0, x1, x2, x3, rfl⟩ := four h4
  exact check_f x0 x1 x2 x3
 have hh := picture_Check.calls 50 1 A c (ss.map pl) 0 w (by rw [List.length_map]; exact h.2) (by rw [List.length_map]; exact h.1) hf
 rw [List.length_map, h4] at hh
 exact hh
theorem both_calls (A B : Option Addr) (c d : Nat) (ss tt : List Nat) (h4 : ss.length = 4) (t4 : tt.length = 4) (w : World) (h : Pc w A c ss) (h2 : Pc w B d tt) : Calls Try.prog 45 #[.agg #[.int .i64 1, .slice A 4 c], .agg #[.int .i64 1, .slice B 4 d]] w fun e w' => e = .returned (.int .i64 0) ∧ Below w.heap.size w w' := by
 have hf : mix_both.f 50 1 (ss.map pl) 1 (tt.map pl) = some 0 := by
  obtain ⟨x0, x1, x2, x3, rfl⟩ := four h4
  obtain ⟨y0, y1, y2, y3, rfl⟩ := four t4
  exact both_f x0 x1 x2 x3 y0 y1 y2 y3
 have hh := mix_both.calls 50 1 A c (ss.map pl) 1 B d (tt.map pl) 0 w (by rw [List.length_map]; exact h.2) (by rw [List.length_map]; exact h.1) (by rw [List.length_map]; exact h2.2) (by rw [List.length_map]; exact h2.1) hf
 simp only [List.length_map] at hh
 rw [h4, t4] at hh
 exact hh
theorem sized_calls (A B : Option Addr) (c d : Nat) (ss tt : List Nat) (h4 : ss.length = 4) (t4 : tt.length = 4) (w : World) (h : Pc w A c ss) (h2 : Pc w B d tt) : Calls Try.prog 46 #[.agg #[.int .i64 1, .slice A 4 c], .agg #[.int .i64 1, .slice B 4 d]] w fun e w' => e = .returned (.bool true) ∧ Below w.heap.size w w' := by
 have hf : mix_sized.f 1 (ss.map pl) 1 (tt.map pl) = some true := by
  obtain ⟨x0, x1, x2, x3, rfl⟩ := four h4
  obtain ⟨y0, y1, y2, y3, rfl⟩ := four t4
  exact sized_f x0 x1 x2 x3 y0 y1 y2 y3
 have hh := mix_sized.calls 1 A c (ss.map pl) 1 B d (tt.map pl) true w (by rw [List.length_map]; exact h.2) (by rw [List.length_map]; exact h.1) (by rw [List.length_map]; exact h2.2) (by rw [List.length_map]; exact h2.1) hf
 simp only [List.length_map] at hh
 rw [h4, t4] at hh
 exact hh
theorem fade_made (A : Option Addr) (c : Nat) (ss : List Nat) (h4 : ss.length = 4) (w : World) (h : Pc w A c ss) (g2 g3 t : Nat) (hg : w.heap[g2]? = some (.cells #[.int .i64 1, .slice A 4 c] 33 (0, 0))) (ht : w.heap[g3]? = some (.cells #[.int .u32 (t : Int)] 23 (0, 0))) (hM : ∀ k < 4, ∀ r, floatBits .mul .f32 (gt ss k) t = some r → r < 4294967296) :
    Calls Try.prog 47 #[.agg #[.int .i64 1, .slice A 4 c], .func (.func 64) #[] #[.pointer (some ⟨g2, 0, none⟩), .pointer (some ⟨g3, 0, none⟩)]] w fun e w' => ∃ A' c', e = .returned (.agg #[.int .i64 1, .slice A' 4 c']) ∧ Pf w.heap.size w'.heap.size w' A' c' (outs (fun k => nr (floatBits .mul .f32 (gt ss k) t)) 4) ∧ Below w.heap.size w w' := by
 have hh := made_calls 1 A c ss (fun k => nr (floatBits .mul .f32 (gt ss k) t)) 64 _ #[.pointer (some ⟨g2, 0, none⟩), .pointer (some ⟨g3, 0, none⟩)] Try.func64 (by kernel_rfl) rfl (by omega) (by omega) w h (fun W k hk hb => fade_calls 1 A c ss t k g2 g3 hk (by omega) W (by rw [h4]; exact blk_below hg hb) (blk_below ht hb) (h.below hb) (hM k (by omega)))
 rw [h4] at hh
 exact hh
theorem Fade_calls (A : Option Addr) (c : Nat) (ss : List Nat) (t : Nat) (h4 : ss.length = 4) (w : World) (h : Pc w A c ss) (hM : ∀ k < 4, ∀ r, floatBits .mul .f32 (gt ss k) t = some r → r < 4294967296) :
    Calls Try.prog 32 #[.agg #[.int .i64 1, .slice A 4 c], .int .u32 (t : Int)] w fun e w' => ∃ A' c', e = .returned (.tuple #[.agg #[.int .i64 1, .slice A' 4 c'], .int .i64 0]) ∧ Pf w.heap.size w'.heap.size w' A' c' (outs (fun k => nr (floatBits .mul .f32 (gt ss k) t)) 4) ∧ Below w.heap.size w w' := by
 have hu33 := Try.underlying33
 have H4 := Aside0.mk h4
 have HP : Aside0 (∀ W, Below w.heap.size w W → Pc W A c ss) := ⟨fun W hb => h.below hb⟩
 have HM := Aside0.mk hM
 have B_0 : Aside0 (Below w.heap.size w w) := ⟨Below.refl _ _⟩
 clear h4 h hM
 go_enter Try.func32, Try.ntmps32
 go_wp2_with (first | ((with_reducible refine gate_dst (N := 2) rfl ?_); refine box_event ?hg (N := 2) ?hd (cs := #[.int .i64 1, .slice A 4 c]) (t := 33) ?hr ?_; (case hd => rfl); (case hg => rfl); (case hr => first | (go_simp; done) | (go_simp; rfl)); intro g2 hg_ w1 hm_ hb_; have GP := Aside0.mk (show w.heap.size ≤ g2 by rw [hg_]; exact B_0.out.size); have B_1 := Aside0.mk (below_step B_0.out hb_); have P_1 := Aside0.mk (hm_); have cP0 := (blk_cell P_1.out 0).trans rfl; have cP1 := (blk_cell P_1.out 1).trans rfl; clear hm_ hb_ hg_) | ((with_reducible refine gate_dst (N := 3) rfl ?_); refine box_event ?hg (N := 3) ?hd (cs := #[.int .u32 (t : Int)]) (t := 23) ?hr ?_; (case hd => rfl); (case hg => rfl); (case hr => first | (go_simp; done) | (go_simp; rfl)); intro g3 hg_ w2 hm_ hb_; have NEPT := Aside0.mk (show g2 ≠ g3 by rw [hg_]; have := blk_lt P_1.out; omega); have GT := Aside0.mk (show w.heap.size ≤ g3 by rw [hg_]; exact B_1.out.size); clear cP0 cP1; have B_2 := Aside0.mk (below_step B_1.out hb_); have P_2 := Aside0.mk (blk_below P_1.out hb_); clear P_1; have T_2 := Aside0.mk (hm_); have cP0 := (blk_cell P_2.out 0).trans rfl; have cP1 := (blk_cell P_2.out 1).trans rfl; clear hm_ hb_ hg_) | ((with_reducible refine gate_dst (N := 4) rfl ?_); refine box_event ?hg (N := 4) ?hd (cs := #[.int .i64 0, .slice none 0 0]) (t := 33) ?hr ?_; (case hd => rfl); (case hg => rfl); (case hr => first | (go_simp; done) | (go_simp; rfl)); intro g4 hg_ w3 hm_ hb_; have NEPR := Aside0.mk (show g2 ≠ g4 by rw [hg_]; have := blk_lt P_2.out; omega); have NETR := Aside0.mk (show g3 ≠ g4 by rw [hg_]; have := blk_lt T_2.out; omega); have GR := Aside0.mk (show w.heap.size ≤ g4 by rw [hg_]; exact B_2.out.size); clear cP0 cP1; have B_3 := Aside0.mk (below_step B_2.out hb_); have P_3 := Aside0.mk (blk_below P_2.out hb_); have T_3 := Aside0.mk (blk_below T_2.out hb_); clear P_2 T_2; have R_3 := Aside0.mk (hm_); have cP0 := (blk_cell P_3.out 0).trans rfl; have cP1 := (blk_cell P_3.out 1).trans rfl; clear hm_ hb_ hg_) | (go_at_call 63; (with_reducible refine (check_calls A c ss H4.out _ (HP.out _ B_3.out)).mono ?_); rintro e w4 ⟨rfl, hb⟩; clear cP0 cP1; have B_4 := Aside0.mk (below_step B_3.out hb); have P_4 := Aside0.mk (blk_below P_3.out hb); have T_4 := Aside0.mk (blk_below T_3.out hb); have R_4 := Aside0.mk (blk_below R_3.out hb); clear P_3 T_3 R_3; have cP0 := (blk_cell P_4.out 0).trans rfl; have cP1 := (blk_cell P_4.out 1).trans rfl; clear hb) | (go_at_call 47; refine (fade_made A c ss H4.out _ (HP.out _ B_4.out) g2 g3 t P_4.out T_4.out HM.out).mono ?_; rintro e w5 ⟨AZ, cZ, rfl, hZ, hb⟩; have LTPZ := Aside0.mk (show g2 < w4.heap.size from blk_lt P_4.out); have LTTZ := Aside0.mk (show g3 < w4.heap.size from blk_lt T_4.out); have LTRZ := Aside0.mk (show g4 < w4.heap.size from blk_lt R_4.out); have GZ_ := Aside0.mk (show w.heap.size ≤ w4.heap.size from B_4.out.size); clear cP0 cP1; have B_5 := Aside0.mk (below_step B_4.out hb); have P_5 := Aside0.mk (blk_below P_4.out hb); have T_5 := Aside0.mk (blk_below T_4.out hb); have R_5 := Aside0.mk (blk_below R_4.out hb); clear P_4 T_4 R_4; have cP0 := (blk_cell P_5.out 0).trans rfl; have cP1 := (blk_cell P_5.out 1).trans rfl; have Z_5 := Aside0.mk (hZ); clear hZ; clear hb) | ((with_reducible refine gate_store (p := 4) rfl ?_); refine store_event rfl rfl rfl g4 #[.int .i64 1, .slice AZ 4 cZ] _ 33 rfl rfl R_5.out size33 rfl (by simp [Value.oneCell']) ?_; intro w6 hm_ hst_ hbl_; have Z_6 := Aside0.mk (Z_5.out.keep hst_ hbl_ (.inl LTRZ.out)); clear Z_5; clear cP0 cP1; have B_6 := Aside0.mk (B_5.out.trans (hbl_ _ GR.out)); have P_6 := Aside0.mk ((hst_ g2 NEPR.out).trans P_5.out); have T_6 := Aside0.mk ((hst_ g3 NETR.out).trans T_5.out); have R_6 := Aside0.mk (hm_); clear P_5 T_5 R_5 hm_ hst_ hbl_; have cP0 := (blk_cell P_6.out 0).trans rfl; have cP1 := (blk_cell P_6.out 1).trans rfl))
 refine bodyPost_ret (results_ct rfl _ _ g4 33 _ (0, 0) _ rfl R_6.out Try.underlying33 rfl (by kernel_rfl)) rfl ?_
 exact ⟨_, _, rfl, Z_6.out.mono GZ_.out Z_6.out.1 (Nat.le_refl _), B_6.out⟩
theorem alph_made (A : Option Addr) (c : Nat) (ss : List Nat) (h4 : ss.length = 4) (w : World) (h : Pc w A c ss) (g2 g3 : Nat) (hg : w.heap[g2]? = some (.cells #[.int .i64 1, .slice A 4 c] 33 (0, 0))) (fi : FuncId) (fn : Func) (hf : Try.prog.funcs[fi]? = some fn) (hname : (fn.name == "runtime.NumGoroutine") = false) (hbody : fn.body.isSome = true) (G : Nat → Nat) (hw : w.heap[g3]? = some (.cells #[.func (.func fi) #[] #[]] 91 (0, 0))) (hG : ∀ (W1 : World) (k : Nat), k < 3 → Calls Try.prog fi #[.int .u32 ((gt ss k : Nat) : Int), .int .u32 ((gt ss 3 : Nat) : Int)] W1 fun e w' => e = .returned (.int .u32 ((G k : Nat) : Int)) ∧ Below W1.heap.size W1 w') :
    Calls Try.prog 47 #[.agg #[.int .i64 1, .slice A 4 c], .func (.func 82) #[] #[.pointer (some ⟨g2, 0, none⟩), .pointer (some ⟨g3, 0, none⟩)]] w fun e w' => ∃ A' c', e = .returned (.agg #[.int .i64 1, .slice A' 4 c']) ∧ Pf w.heap.size w'.heap.size w' A' c' (outs (fun k => if k = 3 then gt ss 3 else G k) 4) ∧ Below w.heap.size w w' := by
 have hh := made_calls 1 A c ss (fun k => if k = 3 then gt ss 3 else G k) 82 _ #[.pointer (some ⟨g2, 0, none⟩), .pointer (some ⟨g3, 0, none⟩)] Try.func82 (by kernel_rfl) rfl (by omega) (by omega) w h (fun W k hk hb => by
  by_cases e3 : k = 3
  ·subst e3
   exact alph3_calls 1 A c ss g2 g3 h4 W (blk_below hg hb) (h.below hb)
  ·simp only [if_neg e3]
   exact alph_calls 1 A c ss k g2 g3 h4 W (blk_below hg hb) (h.below hb) fi fn hf hname hbody (by omega) (blk_below hw hb) (G k) (fun W1 _ => hG W1 k (by omega)))
 rw [h4] at hh
 exact hh
theorem alphas_calls (A : Option Addr) (c : Nat) (ss : List Nat) (h4 : ss.length = 4) (w : World) (h : Pc w A c ss) (fi : FuncId) (fn : Func) (hf : Try.prog.funcs[fi]? = some fn) (hname : (fn.name == "runtime.NumGoroutine") = false) (hbody : fn.body.isSome = true) (G : Nat → Nat) (hG : ∀ (W1 : World) (k : Nat), k < 3 → Calls Try.prog fi #[.int .u32 ((gt ss k : Nat) : Int), .int .u32 ((gt ss 3 : Nat) : Int)] W1 fun e w' => e = .returned (.int .u32 ((G k : Nat) : Int)) ∧ Below W1.heap.size W1 w') :
    Calls Try.prog 58 #[.agg #[.int .i64 1, .slice A 4 c], .func (.func fi) #[] #[]] w fun e w' => ∃ A' c', e = .returned (.tuple #[.agg #[.int .i64 1, .slice A' 4 c'], .int .i64 0]) ∧ Pf w.heap.size w'.heap.size w' A' c' (outs (fun k => if k = 3 then gt ss 3 else G k) 4) ∧ Below w.heap.size w w' := by
 have hu33 := Try.underlying33
 have H4 := Aside0.mk h4
 have HP : Aside0 (∀ W, Below w.heap.size w W → Pc W A c ss) := ⟨fun W hb => h.below hb⟩
 have HF : Aside0 (Try.prog.funcs[fi]? = some fn ∧ (fn.name == "runtime.NumGoroutine") = false ∧ fn.body.isSome = true) := ⟨⟨hf, hname, hbody⟩⟩
 have HG := Aside0.mk hG
 have B_0 : Aside0 (Below w.heap.size w w) := ⟨Below.refl _ _⟩
 clear h4 h hG hf hname hbody
 go_enter Try.func58, Try.ntmps58
 go_wp2_with (first | ((with_reducible refine gate_dst (N := 2) rfl ?_); refine box_event ?hg (N := 2) ?hd (cs := #[.int .i64 1, .slice A 4 c]) (t := 33) ?hr ?_; (case hd => rfl); (case hg => rfl); (case hr => first | (go_simp; done) | (go_simp; rfl)); intro g2 hg_ w1 hm_ hb_; have GP := Aside0.mk (show w.heap.size ≤ g2 by rw [hg_]; exact B_0.out.size); have B_1 := Aside0.mk (below_step B_0.out hb_); have P_1 := Aside0.mk (hm_); have cP0 := (blk_cell P_1.out 0).trans rfl; have cP1 := (blk_cell P_1.out 1).trans rfl; clear hm_ hb_ hg_) | ((with_reducible refine gate_dst (N := 3) rfl ?_); refine box_event ?hg (N := 3) ?hd (cs := #[.func (.func fi) #[] #[]]) (t := 91) ?hr ?_; (case hd => rfl); (case hg => rfl); (case hr => first | (go_simp; done) | (go_simp; rfl)); intro g3 hg_ w2 hm_ hb_; have NEPT := Aside0.mk (show g2 ≠ g3 by rw [hg_]; have := blk_lt P_1.out; omega); have GT := Aside0.mk (show w.heap.size ≤ g3 by rw [hg_]; exact B_1.out.size); clear cP0 cP1; have B_2 := Aside0.mk (below_step B_1.out hb_); have P_2 := Aside0.mk (blk_below P_1.out hb_); clear P_1; have T_2 := Aside0.mk (hm_); have cP0 := (blk_cell P_2.out 0).trans rfl; have cP1 := (blk_cell P_2.out 1).trans rfl; clear hm_ hb_ hg_) | ((with_reducible refine gate_dst (N := 4) rfl ?_); refine box_event ?hg (N := 4) ?hd (cs := #[.int .i64 0, .slice none 0 0]) (t := 33) ?hr ?_; (case hd => rfl); (case hg => rfl); (case hr => first | (go_simp; done) | (go_simp; rfl)); intro g4 hg_ w3 hm_ hb_; have NEPR := Aside0.mk (show g2 ≠ g4 by rw [hg_]; have := blk_lt P_2.out; omega); have NETR := Aside0.mk (show g3 ≠ g4 by rw [hg_]; have := blk_lt T_2.out; omega); have GR := Aside0.mk (show w.heap.size ≤ g4 by rw [hg_]; exact B_2.out.size); clear cP0 cP1; have B_3 := Aside0.mk (below_step B_2.out hb_); have P_3 := Aside0.mk (blk_below P_2.out hb_); have T_3 := Aside0.mk (blk_below T_2.out hb_); clear P_2 T_2; have R_3 := Aside0.mk (hm_); have cP0 := (blk_cell P_3.out 0).trans rfl; have cP1 := (blk_cell P_3.out 1).trans rfl; clear hm_ hb_ hg_) | (go_at_call 63; (with_reducible refine (check_calls A c ss H4.out _ (HP.out _ B_3.out)).mono ?_); rintro e w4 ⟨rfl, hb⟩; clear cP0 cP1; have B_4 := Aside0.mk (below_step B_3.out hb); have P_4 := Aside0.mk (blk_below P_3.out hb); have T_4 := Aside0.mk (blk_below T_3.out hb); have R_4 := Aside0.mk (blk_below R_3.out hb); clear P_3 T_3 R_3; have cP0 := (blk_cell P_4.out 0).trans rfl; have cP1 := (blk_cell P_4.out 1).trans rfl; clear hb) | (go_at_call 47; refine (alph_made A c ss H4.out _ (HP.out _ B_4.out) g2 g3 P_4.out fi fn HF.out.1 HF.out.2.1 HF.out.2.2 G T_4.out HG.out).mono ?_; rintro e w5 ⟨AZ, cZ, rfl, hZ, hb⟩; have LTPZ := Aside0.mk (show g2 < w4.heap.size from blk_lt P_4.out); have LTTZ := Aside0.mk (show g3 < w4.heap.size from blk_lt T_4.out); have LTRZ := Aside0.mk (show g4 < w4.heap.size from blk_lt R_4.out); have GZ_ := Aside0.mk (show w.heap.size ≤ w4.heap.size from B_4.out.size); clear cP0 cP1; have B_5 := Aside0.mk (below_step B_4.out hb); have P_5 := Aside0.mk (blk_below P_4.out hb); have T_5 := Aside0.mk (blk_below T_4.out hb); have R_5 := Aside0.mk (blk_below R_4.out hb); clear P_4 T_4 R_4; have cP0 := (blk_cell P_5.out 0).trans rfl; have cP1 := (blk_cell P_5.out 1).trans rfl; have Z_5 := Aside0.mk (hZ); clear hZ; clear hb) | ((with_reducible refine gate_store (p := 4) rfl ?_); refine store_event rfl rfl rfl g4 #[.int .i64 1, .slice AZ 4 cZ] _ 33 rfl rfl R_5.out size33 rfl (by simp [Value.oneCell']) ?_; intro w6 hm_ hst_ hbl_; have Z_6 := Aside0.mk (Z_5.out.keep hst_ hbl_ (.inl LTRZ.out)); clear Z_5; clear cP0 cP1; have B_6 := Aside0.mk (B_5.out.trans (hbl_ _ GR.out)); have P_6 := Aside0.mk ((hst_ g2 NEPR.out).trans P_5.out); have T_6 := Aside0.mk ((hst_ g3 NETR.out).trans T_5.out); have R_6 := Aside0.mk (hm_); clear P_5 T_5 R_5 hm_ hst_ hbl_; have cP0 := (blk_cell P_6.out 0).trans rfl; have cP1 := (blk_cell P_6.out 1).trans rfl))
 refine bodyPost_ret (results_ct rfl _ _ g4 33 _ (0, 0) _ rfl R_6.out Try.underlying33 rfl (by kernel_rfl)) rfl ?_
 exact ⟨_, _, rfl, Z_6.out.mono GZ_.out Z_6.out.1 (Nat.le_refl _), B_6.out⟩
theorem Multiply_calls (A : Option Addr) (c : Nat) (ss : List Nat) (h4 : ss.length = 4) (w : World) (h : Pc w A c ss) (hM : ∀ k < 3, ∀ r, floatBits .mul .f32 (gt ss k) (gt ss 3) = some r → r < 4294967296) :
    Calls Try.prog 29 #[.agg #[.int .i64 1, .slice A 4 c]] w fun e w' => ∃ A' c', e = .returned (.tuple #[.agg #[.int .i64 1, .slice A' 4 c'], .int .i64 0]) ∧ Pf w.heap.size w'.heap.size w' A' c' (outs (fun k => if k = 3 then gt ss 3 else (fun k => nr (floatBits .mul .f32 (gt ss k) (gt ss 3))) k) 4) ∧ Below w.heap.size w w' := by
 have hu33 := Try.underlying33
 have H4 := Aside0.mk h4
 have HP : Aside0 (∀ W, Below w.heap.size w W → Pc W A c ss) := ⟨fun W hb => h.below hb⟩
 have HM := Aside0.mk hM
 have B_0 : Aside0 (Below w.heap.size w w) := ⟨Below.refl _ _⟩
 clear h4 h hM
 go_enter Try.func29, Try.ntmps29
 go_wp2_with (first | ((with_reducible refine gate_dst (N := 1) rfl ?_); refine box_event ?hg (N := 1) ?hd (cs := #[.int .i64 1, .slice A 4 c]) (t := 33) ?hr ?_; (case hd => rfl); (case hg => rfl); (case hr => first | (go_simp; done) | (go_simp; rfl)); intro g1 hg_ w1 hm_ hb_; have GP := Aside0.mk (show w.heap.size ≤ g1 by rw [hg_]; exact B_0.out.size); have B_1 := Aside0.mk (below_step B_0.out hb_); have P_1 := Aside0.mk (hm_); have cP0 := (blk_cell P_1.out 0).trans rfl; have cP1 := (blk_cell P_1.out 1).trans rfl; clear hm_ hb_ hg_) | ((with_reducible refine gate_dst (N := 2) rfl ?_); refine box_event ?hg (N := 2) ?hd (cs := #[.int .i64 0, .slice none 0 0]) (t := 33) ?hr ?_; (case hd => rfl); (case hg => rfl); (case hr => first | (go_simp; done) | (go_simp; rfl)); intro g2 hg_ w2 hm_ hb_; have NEPR := Aside0.mk (show g1 ≠ g2 by rw [hg_]; have := blk_lt P_1.out; omega); have GR := Aside0.mk (show w.heap.size ≤ g2 by rw [hg_]; exact B_1.out.size); clear cP0 cP1; have B_2 := Aside0.mk (below_step B_1.out hb_); have P_2 := Aside0.mk (blk_below P_1.out hb_); clear P_1; have R_2 := Aside0.mk (hm_); have cP0 := (blk_cell P_2.out 0).trans rfl; have cP1 := (blk_cell P_2.out 1).trans rfl; clear hm_ hb_ hg_) | (go_at_call 58; refine (alphas_calls A c ss H4.out _ (HP.out _ B_2.out) 59 _ Try.func59 (by kernel_rfl) rfl (fun k => nr (floatBits .mul .f32 (gt ss k) (gt ss 3))) (fun W1 k hk => (Mul_calls _ _ (HM.out k hk) W1).mono (fun e w' hh => ⟨hh.1, hh.2.below⟩))).mono ?_; rintro e w3 ⟨AZ, cZ, rfl, hZ, hb⟩; have LTPZ := Aside0.mk (show g1 < w2.heap.size from blk_lt P_2.out); have LTRZ := Aside0.mk (show g2 < w2.heap.size from blk_lt R_2.out); have GZ_ := Aside0.mk (show w.heap.size ≤ w2.heap.size from B_2.out.size); clear cP0 cP1; have B_3 := Aside0.mk (below_step B_2.out hb); have P_3 := Aside0.mk (blk_below P_2.out hb); have R_3 := Aside0.mk (blk_below R_2.out hb); clear P_2 R_2; have cP0 := (blk_cell P_3.out 0).trans rfl; have cP1 := (blk_cell P_3.out 1).trans rfl; have Z_3 := Aside0.mk (hZ); clear hZ; clear hb) | ((with_reducible refine gate_store (p := 2) rfl ?_); refine store_event rfl rfl rfl g2 #[.int .i64 1, .slice AZ 4 cZ] _ 33 rfl rfl R_3.out size33 rfl (by simp [Value.oneCell']) ?_; intro w4 hm_ hst_ hbl_; have Z_4 := Aside0.mk (Z_3.out.keep hst_ hbl_ (.inl LTRZ.out)); clear Z_3; clear cP0 cP1; have B_4 := Aside0.mk (B_3.out.trans (hbl_ _ GR.out)); have P_4 := Aside0.mk ((hst_ g1 NEPR.out).trans P_3.out); have R_4 := Aside0.mk (hm_); clear P_3 R_3 hm_ hst_ hbl_; have cP0 := (blk_cell P_4.out 0).trans rfl; have cP1 := (blk_cell P_4.out 1).trans rfl))
 refine bodyPost_ret (results_ct rfl _ _ g2 33 _ (0, 0) _ rfl R_4.out Try.underlying33 rfl (by kernel_rfl)) rfl ?_
 exact ⟨_, _, rfl, Z_4.out.mono GZ_.out Z_4.out.1 (Nat.le_refl _), B_4.out⟩
theorem Divide_calls (A : Option Addr) (c : Nat) (ss : List Nat) (h4 : ss.length = 4) (w : World) (h : Pc w A c ss) (ha : gt ss 3 < 4294967296) (hM : ∀ k < 3, ∀ r, floatBits .quo .f32 (gt ss k) (gt ss 3) = some r → r < 4294967296) :
    Calls Try.prog 30 #[.agg #[.int .i64 1, .slice A 4 c]] w fun e w' => ∃ A' c', e = .returned (.tuple #[.agg #[.int .i64 1, .slice A' 4 c'], .int .i64 0]) ∧ Pf w.heap.size w'.heap.size w' A' c' (outs (fun k => if k = 3 then gt ss 3 else (fun k => dv (gt ss k) (gt ss 3)) k) 4) ∧ Below w.heap.size w w' := by
 have hu33 := Try.underlying33
 have H4 := Aside0.mk h4
 have HP : Aside0 (∀ W, Below w.heap.size w W → Pc W A c ss) := ⟨fun W hb => h.below hb⟩
 have HM := Aside0.mk hM
 have HA := Aside0.mk ha
 have B_0 : Aside0 (Below w.heap.size w w) := ⟨Below.refl _ _⟩
 clear h4 h hM ha
 go_enter Try.func30, Try.ntmps30
 go_wp2_with (first | ((with_reducible refine gate_dst (N := 1) rfl ?_); refine box_event ?hg (N := 1) ?hd (cs := #[.int .i64 1, .slice A 4 c]) (t := 33) ?hr ?_; (case hd => rfl); (case hg => rfl); (case hr => first | (go_simp; done) | (go_simp; rfl)); intro g1 hg_ w1 hm_ hb_; have GP := Aside0.mk (show w.heap.size ≤ g1 by rw [hg_]; exact B_0.out.size); have B_1 := Aside0.mk (below_step B_0.out hb_); have P_1 := Aside0.mk (hm_); have cP0 := (blk_cell P_1.out 0).trans rfl; have cP1 := (blk_cell P_1.out 1).trans rfl; clear hm_ hb_ hg_) | ((with_reducible refine gate_dst (N := 2) rfl ?_); refine box_event ?hg (N := 2) ?hd (cs := #[.int .i64 0, .slice none 0 0]) (t := 33) ?hr ?_; (case hd => rfl); (case hg => rfl); (case hr => first | (go_simp; done) | (go_simp; rfl)); intro g2 hg_ w2 hm_ hb_; have NEPR := Aside0.mk (show g1 ≠ g2 by rw [hg_]; have := blk_lt P_1.out; omega); have GR := Aside0.mk (show w.heap.size ≤ g2 by rw [hg_]; exact B_1.out.size); clear cP0 cP1; have B_2 := Aside0.mk (below_step B_1.out hb_); have P_2 := Aside0.mk (blk_below P_1.out hb_); clear P_1; have R_2 := Aside0.mk (hm_); have cP0 := (blk_cell P_2.out 0).trans rfl; have cP1 := (blk_cell P_2.out 1).trans rfl; clear hm_ hb_ hg_) | (go_at_call 58; refine (alphas_calls A c ss H4.out _ (HP.out _ B_2.out) 60 _ Try.func60 (by kernel_rfl) rfl (fun k => dv (gt ss k) (gt ss 3)) (fun W1 k hk => div1_calls _ _ HA.out (HM.out k hk) W1)).mono ?_; rintro e w3 ⟨AZ, cZ, rfl, hZ, hb⟩; have LTPZ := Aside0.mk (show g1 < w2.heap.size from blk_lt P_2.out); have LTRZ := Aside0.mk (show g2 < w2.heap.size from blk_lt R_2.out); have GZ_ := Aside0.mk (show w.heap.size ≤ w2.heap.size from B_2.out.size); clear cP0 cP1; have B_3 := Aside0.mk (below_step B_2.out hb); have P_3 := Aside0.mk (blk_below P_2.out hb); have R_3 := Aside0.mk (blk_below R_2.out hb); clear P_2 R_2; have cP0 := (blk_cell P_3.out 0).trans rfl; have cP1 := (blk_cell P_3.out 1).trans rfl; have Z_3 := Aside0.mk (hZ); clear hZ; clear hb) | ((with_reducible refine gate_store (p := 2) rfl ?_); refine store_event rfl rfl rfl g2 #[.int .i64 1, .slice AZ 4 cZ] _ 33 rfl rfl R_3.out size33 rfl (by simp [Value.oneCell']) ?_; intro w4 hm_ hst_ hbl_; have Z_4 := Aside0.mk (Z_3.out.keep hst_ hbl_ (.inl LTRZ.out)); clear Z_3; clear cP0 cP1; have B_4 := Aside0.mk (B_3.out.trans (hbl_ _ GR.out)); have P_4 := Aside0.mk ((hst_ g1 NEPR.out).trans P_3.out); have R_4 := Aside0.mk (hm_); clear P_3 R_3 hm_ hst_ hbl_; have cP0 := (blk_cell P_4.out 0).trans rfl; have cP1 := (blk_cell P_4.out 1).trans rfl))
 refine bodyPost_ret (results_ct rfl _ _ g2 33 _ (0, 0) _ rfl R_4.out Try.underlying33 rfl (by kernel_rfl)) rfl ?_
 exact ⟨_, _, rfl, Z_4.out.mono GZ_.out Z_4.out.1 (Nat.le_refl _), B_4.out⟩
end Go.Proofs.Ytjlciehcddanpaa.A
end
section
set_option linter.unusedVariables false
set_option linter.unusedSimpArgs false
set_option linter.unusedSectionVars false
namespace Go.Proofs.Ytjlciehcddanpaa.A
open Go.RowKit Go.Shelf Go.Proofs.YtjlciehcddanpaaW.PrintWords Go.Proofs.YtjlciehcddanpaaW.PrintLast Go.Proofs.YtjlciehcddanpaaW.PrintMore Go.Proofs.Ytjlciehcddanpaa.PMixNames

set_option maxRecDepth 100000
theorem size63 : (Try.prog.info? 63).map (·.size) = some 1 := by kernel_rfl
theorem between_made (A : Option Addr) (c : Nat) (ss : List Nat) (h4 : ss.length = 4) (w : World) (h : Pc w A c ss) (B : Option Addr) (d : Nat) (tt : List Nat) (t4 : tt.length = 4) (h2 : Pc w B d tt) (g2 g3 g4 t : Nat) (hg : w.heap[g2]? = some (.cells #[.int .i64 1, .slice A 4 c] 33 (0, 0))) (hg2 : w.heap[g3]? = some (.cells #[.int .i64 1, .slice B 4 d] 33 (0, 0))) (ht : w.heap[g4]? = some (.cells #[.int .u32 (t : Int)] 23 (0, 0))) (hS : ∀ k < 4, gt ss k < 4294967296 ∧ gt tt k < 4294967296 ∧ t < 4294967296 ∧ Nov (stp (gt ss k) (gt tt k) t)) :
    Calls Try.prog 47 #[.agg #[.int .i64 1, .slice A 4 c], .func (.func 65) #[] #[.pointer (some ⟨g2, 0, none⟩), .pointer (some ⟨g3, 0, none⟩), .pointer (some ⟨g4, 0, none⟩)]] w fun e w' => ∃ A' c', e = .returned (.agg #[.int .i64 1, .slice A' 4 c']) ∧ Pf w.heap.size w'.heap.size w' A' c' (outs (fun k => tl (stp (gt ss k) (gt tt k) t)) 4) ∧ Below w.heap.size w w' := by
 have hh := made_calls 1 A c ss (fun k => tl (stp (gt ss k) (gt tt k) t)) 65 _ #[.pointer (some ⟨g2, 0, none⟩), .pointer (some ⟨g3, 0, none⟩), .pointer (some ⟨g4, 0, none⟩)] Try.func65 (by kernel_rfl) rfl (by omega) (by omega) w h (fun W k hk hb => between_calls 1 A B c d ss tt t k g2 g3 g4 (by omega) hk (by omega) W (by rw [h4]; exact blk_below hg hb) (by rw [t4]; exact blk_below hg2 hb) (blk_below ht hb) (h.below hb) (h2.below hb) (hS k (by omega)))
 rw [h4] at hh
 exact hh
theorem Between_calls (A : Option Addr) (c : Nat) (ss : List Nat) (t : Nat) (h4 : ss.length = 4) (w : World) (h : Pc w A c ss) (B : Option Addr) (d : Nat) (tt : List Nat) (t4 : tt.length = 4) (h2 : Pc w B d tt) (hS : ∀ k < 4, gt ss k < 4294967296 ∧ gt tt k < 4294967296 ∧ t < 4294967296 ∧ Nov (stp (gt ss k) (gt tt k) t)) :
    Calls Try.prog 33 #[.agg #[.int .i64 1, .slice A 4 c], .agg #[.int .i64 1, .slice B 4 d], .int .u32 (t : Int)] w fun e w' => ∃ A' c', e = .returned (.tuple #[.agg #[.int .i64 1, .slice A' 4 c'], .int .i64 0]) ∧ Pf w.heap.size w'.heap.size w' A' c' (outs (fun k => tl (stp (gt ss k) (gt tt k) t)) 4) ∧ Below w.heap.size w w' := by
 have hu33 := Try.underlying33
 have H4 := Aside0.mk h4
 have HP : Aside0 (∀ W, Below w.heap.size w W → Pc W A c ss) := ⟨fun W hb => h.below hb⟩
 have T4 := Aside0.mk t4
 have HQ : Aside0 (∀ W, Below w.heap.size w W → Pc W B d tt) := ⟨fun W hb => h2.below hb⟩
 have HS := Aside0.mk hS
 have B_0 : Aside0 (Below w.heap.size w w) := ⟨Below.refl _ _⟩
 clear h4 h t4 h2 hS
 go_enter Try.func33, Try.ntmps33
 go_wp2_with (first | ((with_reducible refine gate_dst (N := 3) rfl ?_); refine box_event ?hg (N := 3) ?hd (cs := #[.int .i64 1, .slice A 4 c]) (t := 33) ?hr ?_; (case hd => rfl); (case hg => rfl); (case hr => first | (go_simp; done) | (go_simp; rfl)); intro g3 hg_ w1 hm_ hb_; have GP := Aside0.mk (show w.heap.size ≤ g3 by rw [hg_]; exact B_0.out.size); have B_1 := Aside0.mk (below_step B_0.out hb_); have P_1 := Aside0.mk (hm_); have cP0 := (blk_cell P_1.out 0).trans rfl; have cP1 := (blk_cell P_1.out 1).trans rfl; clear hm_ hb_ hg_) | ((with_reducible refine gate_dst (N := 4) rfl ?_); refine box_event ?hg (N := 4) ?hd (cs := #[.int .i64 1, .slice B 4 d]) (t := 33) ?hr ?_; (case hd => rfl); (case hg => rfl); (case hr => first | (go_simp; done) | (go_simp; rfl)); intro g4 hg_ w2 hm_ hb_; have NEPQ := Aside0.mk (show g3 ≠ g4 by rw [hg_]; have := blk_lt P_1.out; omega); have GQ := Aside0.mk (show w.heap.size ≤ g4 by rw [hg_]; exact B_1.out.size); clear cP0 cP1; have B_2 := Aside0.mk (below_step B_1.out hb_); have P_2 := Aside0.mk (blk_below P_1.out hb_); clear P_1; have Q_2 := Aside0.mk (hm_); have cP0 := (blk_cell P_2.out 0).trans rfl; have cP1 := (blk_cell P_2.out 1).trans rfl; have cQ0 := (blk_cell Q_2.out 0).trans rfl; have cQ1 := (blk_cell Q_2.out 1).trans rfl; clear hm_ hb_ hg_) | ((with_reducible refine gate_dst (N := 5) rfl ?_); refine box_event ?hg (N := 5) ?hd (cs := #[.int .u32 (t : Int)]) (t := 23) ?hr ?_; (case hd => rfl); (case hg => rfl); (case hr => first | (go_simp; done) | (go_simp; rfl)); intro g5 hg_ w3 hm_ hb_; have NEPT := Aside0.mk (show g3 ≠ g5 by rw [hg_]; have := blk_lt P_2.out; omega); have NEQT := Aside0.mk (show g4 ≠ g5 by rw [hg_]; have := blk_lt Q_2.out; omega); have GT := Aside0.mk (show w.heap.size ≤ g5 by rw [hg_]; exact B_2.out.size); clear cP0 cP1 cQ0 cQ1; have B_3 := Aside0.mk (below_step B_2.out hb_); have P_3 := Aside0.mk (blk_below P_2.out hb_); have Q_3 := Aside0.mk (blk_below Q_2.out hb_); clear P_2 Q_2; have T_3 := Aside0.mk (hm_); have cP0 := (blk_cell P_3.out 0).trans rfl; have cP1 := (blk_cell P_3.out 1).trans rfl; have cQ0 := (blk_cell Q_3.out 0).trans rfl; have cQ1 := (blk_cell Q_3.out 1).trans rfl; clear hm_ hb_ hg_) | ((with_reducible refine gate_dst (N := 6) rfl ?_); refine box_event ?hg (N := 6) ?hd (cs := #[.int .i64 0, .slice none 0 0]) (t := 33) ?hr ?_; (case hd => rfl); (case hg => rfl); (case hr => first | (go_simp; done) | (go_simp; rfl)); intro g6 hg_ w4 hm_ hb_; have NEPR := Aside0.mk (show g3 ≠ g6 by rw [hg_]; have := blk_lt P_3.out; omega); have NEQR := Aside0.mk (show g4 ≠ g6 by rw [hg_]; have := blk_lt Q_3.out; omega); have NETR := Aside0.mk (show g5 ≠ g6 by rw [hg_]; have := blk_lt T_3.out; omega); have GR := Aside0.mk (show w.heap.size ≤ g6 by rw [hg_]; exact B_3.out.size); clear cP0 cP1 cQ0 cQ1; have B_4 := Aside0.mk (below_step B_3.out hb_); have P_4 := Aside0.mk (blk_below P_3.out hb_); have Q_4 := Aside0.mk (blk_below Q_3.out hb_); have T_4 := Aside0.mk (blk_below T_3.out hb_); clear P_3 Q_3 T_3; have R_4 := Aside0.mk (hm_); have cP0 := (blk_cell P_4.out 0).trans rfl; have cP1 := (blk_cell P_4.out 1).trans rfl; have cQ0 := (blk_cell Q_4.out 0).trans rfl; have cQ1 := (blk_cell Q_4.out 1).trans rfl; clear hm_ hb_ hg_) | (go_at_call 45; (with_reducible refine (both_calls A B c d ss tt H4.out T4.out _ (HP.out _ B_4.out) (HQ.out _ B_4.out)).mono ?_); rintro e w5 ⟨rfl, hb⟩; clear cP0 cP1 cQ0 cQ1; have B_5 := Aside0.mk (below_step B_4.out hb); have P_5 := Aside0.mk (blk_below P_4.out hb); have Q_5 := Aside0.mk (blk_below Q_4.out hb); have T_5 := Aside0.mk (blk_below T_4.out hb); have R_5 := Aside0.mk (blk_below R_4.out hb); clear P_4 Q_4 T_4 R_4; have cP0 := (blk_cell P_5.out 0).trans rfl; have cP1 := (blk_cell P_5.out 1).trans rfl; have cQ0 := (blk_cell Q_5.out 0).trans rfl; have cQ1 := (blk_cell Q_5.out 1).trans rfl; clear hb) | (go_at_call 46; (with_reducible refine (sized_calls A B c d ss tt H4.out T4.out _ (HP.out _ B_5.out) (HQ.out _ B_5.out)).mono ?_); rintro e w6 ⟨rfl, hb⟩; clear cP0 cP1 cQ0 cQ1; have B_6 := Aside0.mk (below_step B_5.out hb); have P_6 := Aside0.mk (blk_below P_5.out hb); have Q_6 := Aside0.mk (blk_below Q_5.out hb); have T_6 := Aside0.mk (blk_below T_5.out hb); have R_6 := Aside0.mk (blk_below R_5.out hb); clear P_5 Q_5 T_5 R_5; have cP0 := (blk_cell P_6.out 0).trans rfl; have cP1 := (blk_cell P_6.out 1).trans rfl; have cQ0 := (blk_cell Q_6.out 0).trans rfl; have cQ1 := (blk_cell Q_6.out 1).trans rfl; clear hb) | (go_at_call 47; refine (between_made A c ss H4.out _ (HP.out _ B_6.out) B d tt T4.out (HQ.out _ B_6.out) g3 g4 g5 t P_6.out Q_6.out T_6.out HS.out).mono ?_; rintro e w7 ⟨AZ, cZ, rfl, hZ, hb⟩; have LTPZ := Aside0.mk (show g3 < w6.heap.size from blk_lt P_6.out); have LTQZ := Aside0.mk (show g4 < w6.heap.size from blk_lt Q_6.out); have LTTZ := Aside0.mk (show g5 < w6.heap.size from blk_lt T_6.out); have LTRZ := Aside0.mk (show g6 < w6.heap.size from blk_lt R_6.out); have GZ_ := Aside0.mk (show w.heap.size ≤ w6.heap.size from B_6.out.size); clear cP0 cP1 cQ0 cQ1; have B_7 := Aside0.mk (below_step B_6.out hb); have P_7 := Aside0.mk (blk_below P_6.out hb); have Q_7 := Aside0.mk (blk_below Q_6.out hb); have T_7 := Aside0.mk (blk_below T_6.out hb); have R_7 := Aside0.mk (blk_below R_6.out hb); clear P_6 Q_6 T_6 R_6; have cP0 := (blk_cell P_7.out 0).trans rfl; have cP1 := (blk_cell P_7.out 1).trans rfl; have cQ0 := (blk_cell Q_7.out 0).trans rfl; have cQ1 := (blk_cell Q_7.out 1).trans rfl; have Z_7 := Aside0.mk (hZ); clear hZ; clear hb) | ((with_reducible refine gate_store (p := 6) rfl ?_); refine store_event rfl rfl rfl g6 #[.int .i64 1, .slice AZ 4 cZ] _ 33 rfl rfl R_7.out size33 rfl (by simp [Value.oneCell']) ?_; intro w8 hm_ hst_ hbl_; have Z_8 := Aside0.mk (Z_7.out.keep hst_ hbl_ (.inl LTRZ.out)); clear Z_7; clear cP0 cP1 cQ0 cQ1; have B_8 := Aside0.mk (B_7.out.trans (hbl_ _ GR.out)); have P_8 := Aside0.mk ((hst_ g3 NEPR.out).trans P_7.out); have Q_8 := Aside0.mk ((hst_ g4 NEQR.out).trans Q_7.out); have T_8 := Aside0.mk ((hst_ g5 NETR.out).trans T_7.out); have R_8 := Aside0.mk (hm_); clear P_7 Q_7 T_7 R_7 hm_ hst_ hbl_; have cP0 := (blk_cell P_8.out 0).trans rfl; have cP1 := (blk_cell P_8.out 1).trans rfl; have cQ0 := (blk_cell Q_8.out 0).trans rfl; have cQ1 := (blk_cell Q_8.out 1).trans rfl))
 refine bodyPost_ret (results_ct rfl _ _ g6 33 _ (0, 0) _ rfl R_8.out Try.underlying33 rfl (by kernel_rfl)) rfl ?_
 exact ⟨_, _, rfl, Z_8.out.mono GZ_.out Z_8.out.1 (Nat.le_refl _), B_8.out⟩
theorem mix_made (A : Option Addr) (c : Nat) (ss : List Nat) (h4 : ss.length = 4) (w : World) (h : Pc w A c ss) (B : Option Addr) (d : Nat) (tt : List Nat) (t4 : tt.length = 4) (h2 : Pc w B d tt) (g1 g2 g3 : Nat) (hw : w.heap[g1]? = some (.cells #[.func (.func 87) #[] #[]] 63 (0, 0))) (hg : w.heap[g2]? = some (.cells #[.int .i64 1, .slice A 4 c] 33 (0, 0))) (hg2 : w.heap[g3]? = some (.cells #[.int .i64 1, .slice B 4 d] 33 (0, 0))) (hlt : ∀ i, gt ss i < 4294967296 ∧ gt tt i < 4294967296) (hN : ∀ k < 4, Nov (wy1 (wv (gt ss k)) (wv (gt ss 3)) (wv (gt tt k)) (wv (gt tt 3)))) :
    Calls Try.prog 47 #[.agg #[.int .i64 1, .slice A 4 c], .func (.func 48) #[] #[.pointer (some ⟨g1, 0, none⟩), .pointer (some ⟨g2, 0, none⟩), .pointer (some ⟨g3, 0, none⟩)]] w fun e w' => ∃ A' c', e = .returned (.agg #[.int .i64 1, .slice A' 4 c']) ∧ Pf w.heap.size w'.heap.size w' A' c' (outs (fun k => tl (wy1 (wv (gt ss k)) (wv (gt ss 3)) (wv (gt tt k)) (wv (gt tt 3)))) 4) ∧ Below w.heap.size w w' := by
 have hh := made_calls 1 A c ss (fun k => tl (wy1 (wv (gt ss k)) (wv (gt ss 3)) (wv (gt tt k)) (wv (gt tt 3)))) 48 _ #[.pointer (some ⟨g1, 0, none⟩), .pointer (some ⟨g2, 0, none⟩), .pointer (some ⟨g3, 0, none⟩)] Try.func48 (by kernel_rfl) rfl (by omega) (by omega) w h (fun W k hk hb => mix_calls 1 A B c d ss tt k g1 g2 g3 (by omega) h4 t4 W (blk_below hw hb) (blk_below hg hb) (blk_below hg2 hb) (h.below hb) (h2.below hb) hlt (hN k (by omega)))
 rw [h4] at hh
 exact hh
theorem Mix_calls (A : Option Addr) (c : Nat) (ss : List Nat) (h4 : ss.length = 4) (w : World) (h : Pc w A c ss) (B : Option Addr) (d : Nat) (tt : List Nat) (t4 : tt.length = 4) (h2 : Pc w B d tt) (hlt : ∀ i, gt ss i < 4294967296 ∧ gt tt i < 4294967296) (hN : ∀ k < 4, Nov (wy1 (wv (gt ss k)) (wv (gt ss 3)) (wv (gt tt k)) (wv (gt tt 3)))) :
    Calls Try.prog 18 #[.int .i64 1, .agg #[.int .i64 1, .slice A 4 c], .agg #[.int .i64 1, .slice B 4 d]] w fun e w' => ∃ A' c', e = .returned (.tuple #[.agg #[.int .i64 1, .slice A' 4 c'], .int .i64 0]) ∧ Pf w.heap.size w'.heap.size w' A' c' (outs (fun k => tl (wy1 (wv (gt ss k)) (wv (gt ss 3)) (wv (gt tt k)) (wv (gt tt 3)))) 4) ∧ Below w.heap.size w w' := by
 have hu33 := Try.underlying33
 have H4 := Aside0.mk h4
 have HP : Aside0 (∀ W, Below w.heap.size w W → Pc W A c ss) := ⟨fun W hb => h.below hb⟩
 have T4 := Aside0.mk t4
 have HQ : Aside0 (∀ W, Below w.heap.size w W → Pc W B d tt) := ⟨fun W hb => h2.below hb⟩
 have HL := Aside0.mk hlt
 have HN := Aside0.mk hN
 have B_0 : Aside0 (Below w.heap.size w w) := ⟨Below.refl _ _⟩
 clear h4 h t4 h2 hlt hN
 go_enter Try.func18, Try.ntmps18
 go_wp2_with (first | ((with_reducible refine gate_dst (N := 4) rfl ?_); refine box_event ?hg (N := 4) ?hd (cs := #[.int .i64 1, .slice A 4 c]) (t := 33) ?hr ?_; (case hd => rfl); (case hg => rfl); (case hr => first | (go_simp; done) | (go_simp; rfl)); intro g4 hg_ w1 hm_ hb_; have GP := Aside0.mk (show w.heap.size ≤ g4 by rw [hg_]; exact B_0.out.size); have B_1 := Aside0.mk (below_step B_0.out hb_); have P_1 := Aside0.mk (hm_); have cP0 := (blk_cell P_1.out 0).trans rfl; have cP1 := (blk_cell P_1.out 1).trans rfl; clear hm_ hb_ hg_) | ((with_reducible refine gate_dst (N := 5) rfl ?_); refine box_event ?hg (N := 5) ?hd (cs := #[.int .i64 1, .slice B 4 d]) (t := 33) ?hr ?_; (case hd => rfl); (case hg => rfl); (case hr => first | (go_simp; done) | (go_simp; rfl)); intro g5 hg_ w2 hm_ hb_; have NEPQ := Aside0.mk (show g4 ≠ g5 by rw [hg_]; have := blk_lt P_1.out; omega); have GQ := Aside0.mk (show w.heap.size ≤ g5 by rw [hg_]; exact B_1.out.size); clear cP0 cP1; have B_2 := Aside0.mk (below_step B_1.out hb_); have P_2 := Aside0.mk (blk_below P_1.out hb_); clear P_1; have Q_2 := Aside0.mk (hm_); have cP0 := (blk_cell P_2.out 0).trans rfl; have cP1 := (blk_cell P_2.out 1).trans rfl; have cQ0 := (blk_cell Q_2.out 0).trans rfl; have cQ1 := (blk_cell Q_2.out 1).trans rfl; clear hm_ hb_ hg_) | ((with_reducible refine gate_dst (N := 6) rfl ?_); refine box_event ?hg (N := 6) ?hd (cs := #[.int .i64 0, .slice none 0 0]) (t := 33) ?hr ?_; (case hd => rfl); (case hg => rfl); (case hr => first | (go_simp; done) | (go_simp; rfl)); intro g6 hg_ w3 hm_ hb_; have NEPR := Aside0.mk (show g4 ≠ g6 by rw [hg_]; have := blk_lt P_2.out; omega); have NEQR := Aside0.mk (show g5 ≠ g6 by rw [hg_]; have := blk_lt Q_2.out; omega); have GR := Aside0.mk (show w.heap.size ≤ g6 by rw [hg_]; exact B_2.out.size); clear cP0 cP1 cQ0 cQ1; have B_3 := Aside0.mk (below_step B_2.out hb_); have P_3 := Aside0.mk (blk_below P_2.out hb_); have Q_3 := Aside0.mk (blk_below Q_2.out hb_); clear P_2 Q_2; have R_3 := Aside0.mk (hm_); have cP0 := (blk_cell P_3.out 0).trans rfl; have cP1 := (blk_cell P_3.out 1).trans rfl; have cQ0 := (blk_cell Q_3.out 0).trans rfl; have cQ1 := (blk_cell Q_3.out 1).trans rfl; clear hm_ hb_ hg_) | (go_at_call 45; (with_reducible refine (both_calls A B c d ss tt H4.out T4.out _ (HP.out _ B_3.out) (HQ.out _ B_3.out)).mono ?_); rintro e w4 ⟨rfl, hb⟩; clear cP0 cP1 cQ0 cQ1; have B_4 := Aside0.mk (below_step B_3.out hb); have P_4 := Aside0.mk (blk_below P_3.out hb); have Q_4 := Aside0.mk (blk_below Q_3.out hb); have R_4 := Aside0.mk (blk_below R_3.out hb); clear P_3 Q_3 R_3; have cP0 := (blk_cell P_4.out 0).trans rfl; have cP1 := (blk_cell P_4.out 1).trans rfl; have cQ0 := (blk_cell Q_4.out 0).trans rfl; have cQ1 := (blk_cell Q_4.out 1).trans rfl; clear hb) | (go_at_call 34; (with_reducible refine (wayOf_1 _).mono ?_); rintro e w5 ⟨rfl, hb⟩; clear cP0 cP1 cQ0 cQ1; have B_5 := Aside0.mk (below_step B_4.out hb); have P_5 := Aside0.mk (blk_below P_4.out hb); have Q_5 := Aside0.mk (blk_below Q_4.out hb); have R_5 := Aside0.mk (blk_below R_4.out hb); clear P_4 Q_4 R_4; have cP0 := (blk_cell P_5.out 0).trans rfl; have cP1 := (blk_cell P_5.out 1).trans rfl; have cQ0 := (blk_cell Q_5.out 0).trans rfl; have cQ1 := (blk_cell Q_5.out 1).trans rfl; clear hb) | ((with_reducible refine gate_dst (N := 9) rfl ?_); refine box_event ?hg (N := 9) ?hd (cs := #[.nilFunc]) (t := 63) ?hr ?_; (case hd => rfl); (case hg => rfl); (case hr => first | (go_simp; done) | (go_simp; rfl)); intro g9 hg_ w6 hm_ hb_; have NEPY := Aside0.mk (show g4 ≠ g9 by rw [hg_]; have := blk_lt P_5.out; omega); have NEQY := Aside0.mk (show g5 ≠ g9 by rw [hg_]; have := blk_lt Q_5.out; omega); have NERY := Aside0.mk (show g6 ≠ g9 by rw [hg_]; have := blk_lt R_5.out; omega); have GY := Aside0.mk (show w.heap.size ≤ g9 by rw [hg_]; exact B_5.out.size); clear cP0 cP1 cQ0 cQ1; have B_6 := Aside0.mk (below_step B_5.out hb_); have P_6 := Aside0.mk (blk_below P_5.out hb_); have Q_6 := Aside0.mk (blk_below Q_5.out hb_); have R_6 := Aside0.mk (blk_below R_5.out hb_); clear P_5 Q_5 R_5; have Y_6 := Aside0.mk (hm_); have cP0 := (blk_cell P_6.out 0).trans rfl; have cP1 := (blk_cell P_6.out 1).trans rfl; have cQ0 := (blk_cell Q_6.out 0).trans rfl; have cQ1 := (blk_cell Q_6.out 1).trans rfl; have cY0 := (blk_cell Y_6.out 0).trans rfl; clear hm_ hb_ hg_) | ((with_reducible refine gate_store (p := 9) rfl ?_); refine storec_event rfl rfl rfl g9 0 (.func (.func 87) #[] #[]) _ _ rfl rfl rfl Y_6.out size63 (by simp) rfl ?_; intro w7 hm_ hst_ hbl_; clear cP0 cP1 cQ0 cQ1 cY0; have B_7 := Aside0.mk (B_6.out.trans (hbl_ _ GY.out)); have P_7 := Aside0.mk ((hst_ g4 NEPY.out).trans P_6.out); have Q_7 := Aside0.mk ((hst_ g5 NEQY.out).trans Q_6.out); have R_7 := Aside0.mk ((hst_ g6 NERY.out).trans R_6.out); have Y_7 := Aside0.mk (hm_); clear P_6 Q_6 R_6 Y_6 hm_ hst_ hbl_; have cP0 := (blk_cell P_7.out 0).trans rfl; have cP1 := (blk_cell P_7.out 1).trans rfl; have cQ0 := (blk_cell Q_7.out 0).trans rfl; have cQ1 := (blk_cell Q_7.out 1).trans rfl; have cY0 := (blk_cell Y_7.out 0).trans rfl) | ((with_reducible refine gate_dst (N := 22) rfl ?_); refine Kd.event_run rfl (v := .bool false) (w1 := w7) ?hr ?_; (case hr => kernel_rfl)) | (go_at_call 46; (with_reducible refine (sized_calls A B c d ss tt H4.out T4.out _ (HP.out _ B_7.out) (HQ.out _ B_7.out)).mono ?_); rintro e w8 ⟨rfl, hb⟩; clear cP0 cP1 cQ0 cQ1 cY0; have B_8 := Aside0.mk (below_step B_7.out hb); have P_8 := Aside0.mk (blk_below P_7.out hb); have Q_8 := Aside0.mk (blk_below Q_7.out hb); have R_8 := Aside0.mk (blk_below R_7.out hb); have Y_8 := Aside0.mk (blk_below Y_7.out hb); clear P_7 Q_7 R_7 Y_7; have cP0 := (blk_cell P_8.out 0).trans rfl; have cP1 := (blk_cell P_8.out 1).trans rfl; have cQ0 := (blk_cell Q_8.out 0).trans rfl; have cQ1 := (blk_cell Q_8.out 1).trans rfl; have cY0 := (blk_cell Y_8.out 0).trans rfl; clear hb) | (go_at_call 47; refine (mix_made A c ss H4.out _ (HP.out _ B_8.out) B d tt T4.out (HQ.out _ B_8.out) g9 g4 g5 Y_8.out P_8.out Q_8.out HL.out HN.out).mono ?_; rintro e w9 ⟨AZ, cZ, rfl, hZ, hb⟩; have LTPZ := Aside0.mk (show g4 < w8.heap.size from blk_lt P_8.out); have LTQZ := Aside0.mk (show g5 < w8.heap.size from blk_lt Q_8.out); have LTRZ := Aside0.mk (show g6 < w8.heap.size from blk_lt R_8.out); have LTYZ := Aside0.mk (show g9 < w8.heap.size from blk_lt Y_8.out); have GZ_ := Aside0.mk (show w.heap.size ≤ w8.heap.size from B_8.out.size); clear cP0 cP1 cQ0 cQ1 cY0; have B_9 := Aside0.mk (below_step B_8.out hb); have P_9 := Aside0.mk (blk_below P_8.out hb); have Q_9 := Aside0.mk (blk_below Q_8.out hb); have R_9 := Aside0.mk (blk_below R_8.out hb); have Y_9 := Aside0.mk (blk_below Y_8.out hb); clear P_8 Q_8 R_8 Y_8; have cP0 := (blk_cell P_9.out 0).trans rfl; have cP1 := (blk_cell P_9.out 1).trans rfl; have cQ0 := (blk_cell Q_9.out 0).trans rfl; have cQ1 := (blk_cell Q_9.out 1).trans rfl; have cY0 := (blk_cell Y_9.out 0).trans rfl; have Z_9 := Aside0.mk (hZ); clear hZ; clear hb) | ((with_reducible refine gate_store (p := 6) rfl ?_); refine store_event rfl rfl rfl g6 #[.int .i64 1, .slice AZ 4 cZ] _ 33 rfl rfl R_9.out size33 rfl (by simp [Value.oneCell']) ?_; intro w10 hm_ hst_ hbl_; have Z_10 := Aside0.mk (Z_9.out.keep hst_ hbl_ (.inl LTRZ.out)); clear Z_9; clear cP0 cP1 cQ0 cQ1 cY0; have B_10 := Aside0.mk (B_9.out.trans (hbl_ _ GR.out)); have P_10 := Aside0.mk ((hst_ g4 NEPR.out).trans P_9.out); have Q_10 := Aside0.mk ((hst_ g5 NEQR.out).trans Q_9.out); have Y_10 := Aside0.mk ((hst_ g9 NERY.out.symm).trans Y_9.out); have R_10 := Aside0.mk (hm_); clear P_9 Q_9 R_9 Y_9 hm_ hst_ hbl_; have cP0 := (blk_cell P_10.out 0).trans rfl; have cP1 := (blk_cell P_10.out 1).trans rfl; have cQ0 := (blk_cell Q_10.out 0).trans rfl; have cQ1 := (blk_cell Q_10.out 1).trans rfl; have cY0 := (blk_cell Y_10.out 0).trans rfl))
 refine bodyPost_ret (results_ct rfl _ _ g6 33 _ (0, 0) _ rfl R_10.out Try.underlying33 rfl (by kernel_rfl)) rfl ?_
 exact ⟨_, _, rfl, Z_10.out.mono GZ_.out Z_10.out.1 (Nat.le_refl _), B_10.out⟩
end Go.Proofs.Ytjlciehcddanpaa.A
end
section
set_option linter.unusedVariables false
set_option linter.unusedSimpArgs false
set_option linter.unusedSectionVars false
namespace Go.Proofs.Ytjlciehcddanpaa.A
open Go.RowKit Go.Shelf Go.Proofs.YtjlciehcddanpaaW.PrintWords Go.Proofs.YtjlciehcddanpaaW.PrintLast Go.Proofs.YtjlciehcddanpaaW.PrintMore Go.Proofs.Ytjlciehcddanpaa.PMixNames

set_option maxRecDepth 100000
theorem nov_of {o : Option Nat} (h : (match o with | none => true | some q => match floatToFloatBits .f64 q .f32 with | some r => decide (r < 4294967296) | none => false) = true) : Nov o := fun q hq => by
 subst hq
 simp only at h
 cases hr : floatToFloatBits .f64 q .f32 with
 | none => rw [hr] at h; cases h
 | some r => rw [hr] at h; exact ⟨r, rfl, of_decide_eq_true h⟩
theorem lt_of {o : Option Nat} (h : (match o with | none => true | some r => decide (r < 4294967296)) = true) : ∀ r, o = some r → r < 4294967296 := fun r hr => by
 subst hr
 exact of_decide_eq_true h
def ssK : List Nat := [1056964608, 2143289345, 0, 1048576000]
theorem ssK_lt : ∀ i, gt ssK i < 4294967296
 | 0 => by decide
 | 1 => by decide
 | 2 => by decide
 | 3 => by decide
 | n + 4 => by show (0 : Nat) < 4294967296; decide
def kD (k : Nat) : Nat := if k = 3 then gt ssK 3 else (fun k => dv (gt ssK k) (gt ssK 3)) k
def kM (k : Nat) : Nat := if k = 3 then gt ssK 3 else (fun k => nr (floatBits .mul .f32 (gt ssK k) (gt ssK 3))) k
def kF (k : Nat) : Nat := nr (floatBits .mul .f32 (gt ssK k) 1056964608)
def kX (k : Nat) : Nat := tl (wy1 (wv (gt ssK k)) (wv (gt ssK 3)) (wv (gt ssK k)) (wv (gt ssK 3)))
def kB (k : Nat) : Nat := tl (stp (gt ssK k) (gt ssK k) 1056964608)
theorem k_one1 (w : World) : Calls Try.prog 11 #[.int .i64 1, .int .u32 1056964608, .int .u32 1056964608, .int .u32 1065353216, .int .u32 1065353216] w fun e w' => e = .returned (.tuple #[.int .u32 1065353216, .int .i64 0]) ∧ Below w.heap.size w w' := by
 have h := One_1 1056964608 1056964608 1065353216 1065353216 (by decide) (by decide) (by decide) (by decide) (nov_of (by decide +kernel)) w
 rw [show tl (wy1 (wv 1056964608) (wv 1056964608) (wv 1065353216) (wv 1065353216)) = 1065353216 by decide +kernel] at h
 exact h
theorem k_one2 (w : World) : Calls Try.prog 11 #[.int .i64 2, .int .u32 1056964608, .int .u32 1056964608, .int .u32 1065353216, .int .u32 1048576000] w fun e w' => e = .returned (.tuple #[.int .u32 1040187392, .int .i64 0]) ∧ Below w.heap.size w w' := by
 have h := One_2 1056964608 1056964608 1065353216 1048576000 (by decide) (by decide) (by decide) (by decide) (nov_of (by decide +kernel)) w
 rw [show tl (wy2 (wv 1056964608) (wv 1056964608) (wv 1065353216) (wv 1048576000)) = 1040187392 by decide +kernel] at h
 exact h
theorem k_one5 (w : World) : Calls Try.prog 11 #[.int .i64 5, .int .u32 1056964608, .int .u32 1056964608, .int .u32 1056964608, .int .u32 1056964608] w fun e w' => e = .returned (.tuple #[.int .u32 1056964608, .int .i64 0]) ∧ Below w.heap.size w w' := by
 have h := One_5 1056964608 1056964608 1056964608 1056964608 (by decide) (by decide) (by decide) (by decide) (nov_of (by decide +kernel)) w
 rw [show tl (wy5 (wv 1056964608) (wv 1056964608) (wv 1056964608) (wv 1056964608)) = 1056964608 by decide +kernel] at h
 exact h
theorem k_stp1 (w : World) : Calls Try.prog 13 #[.int .u32 1065353216, .int .u32 1077936128, .int .u32 1048576000] w fun e w' => e = .returned (.int .u32 1069547520) ∧ Below w.heap.size w w' := by
 have h := Step_calls 1065353216 1077936128 1048576000 (by decide) (by decide) (by decide) (nov_of (by decide +kernel)) w
 rw [show tl (stp 1065353216 1077936128 1048576000) = 1069547520 by decide +kernel] at h
 exact h
theorem k_stp2 (w : World) : Calls Try.prog 13 #[.int .u32 1065353216, .int .u32 2139095040, .int .u32 0] w fun e w' => e = .returned (.int .u32 2143289344) ∧ Below w.heap.size w w' := by
 have h := Step_calls 1065353216 2139095040 0 (by decide) (by decide) (by decide) (nov_of (by decide +kernel)) w
 rw [show tl (stp 1065353216 2139095040 0) = 2143289344 by decide +kernel] at h
 exact h
theorem k_div (A : Option Addr) (c : Nat) (w : World) (h : Pc w A c ssK) : Calls Try.prog 30 #[.agg #[.int .i64 1, .slice A 4 c]] w fun e w' => ∃ A' c', e = .returned (.tuple #[.agg #[.int .i64 1, .slice A' 4 c'], .int .i64 0]) ∧ Pf w.heap.size w'.heap.size w' A' c' (outs kD 4) ∧ Below w.heap.size w w' := Divide_calls A c ssK rfl w h (by decide) (fun k hk => match k, hk with | 0, _ => lt_of (by decide +kernel) | 1, _ => lt_of (by decide +kernel) | 2, _ => lt_of (by decide +kernel))
theorem k_mul (A : Option Addr) (c : Nat) (w : World) (h : Pc w A c ssK) : Calls Try.prog 29 #[.agg #[.int .i64 1, .slice A 4 c]] w fun e w' => ∃ A' c', e = .returned (.tuple #[.agg #[.int .i64 1, .slice A' 4 c'], .int .i64 0]) ∧ Pf w.heap.size w'.heap.size w' A' c' (outs kM 4) ∧ Below w.heap.size w w' := Multiply_calls A c ssK rfl w h (fun k hk => match k, hk with | 0, _ => lt_of (by decide +kernel) | 1, _ => lt_of (by decide +kernel) | 2, _ => lt_of (by decide +kernel))
theorem k_fad (A : Option Addr) (c : Nat) (w : World) (h : Pc w A c ssK) : Calls Try.prog 32 #[.agg #[.int .i64 1, .slice A 4 c], .int .u32 1056964608] w fun e w' => ∃ A' c', e = .returned (.tuple #[.agg #[.int .i64 1, .slice A' 4 c'], .int .i64 0]) ∧ Pf w.heap.size w'.heap.size w' A' c' (outs kF 4) ∧ Below w.heap.size w w' := Fade_calls A c ssK 1056964608 rfl w h (fun k hk => match k, hk with | 0, _ => lt_of (by decide +kernel) | 1, _ => lt_of (by decide +kernel) | 2, _ => lt_of (by decide +kernel) | 3, _ => lt_of (by decide +kernel))
theorem k_mix (A : Option Addr) (c : Nat) (w : World) (h : Pc w A c ssK) : Calls Try.prog 18 #[.int .i64 1, .agg #[.int .i64 1, .slice A 4 c], .agg #[.int .i64 1, .slice A 4 c]] w fun e w' => ∃ A' c', e = .returned (.tuple #[.agg #[.int .i64 1, .slice A' 4 c'], .int .i64 0]) ∧ Pf w.heap.size w'.heap.size w' A' c' (outs kX 4) ∧ Below w.heap.size w w' := Mix_calls A c ssK rfl w h A c ssK rfl h (fun i => ⟨ssK_lt i, ssK_lt i⟩) (fun k hk => match k, hk with | 0, _ => nov_of (by decide +kernel) | 1, _ => nov_of (by decide +kernel) | 2, _ => nov_of (by decide +kernel) | 3, _ => nov_of (by decide +kernel))
theorem k_btw (A : Option Addr) (c : Nat) (w : World) (h : Pc w A c ssK) : Calls Try.prog 33 #[.agg #[.int .i64 1, .slice A 4 c], .agg #[.int .i64 1, .slice A 4 c], .int .u32 1056964608] w fun e w' => ∃ A' c', e = .returned (.tuple #[.agg #[.int .i64 1, .slice A' 4 c'], .int .i64 0]) ∧ Pf w.heap.size w'.heap.size w' A' c' (outs kB 4) ∧ Below w.heap.size w w' := Between_calls A c ssK 1056964608 rfl w h A c ssK rfl h (fun k hk => match k, hk with | 0, _ => ⟨by decide, by decide, by decide, nov_of (by decide +kernel)⟩ | 1, _ => ⟨by decide, by decide, by decide, nov_of (by decide +kernel)⟩ | 2, _ => ⟨by decide, by decide, by decide, nov_of (by decide +kernel)⟩ | 3, _ => ⟨by decide, by decide, by decide, nov_of (by decide +kernel)⟩)
theorem at4 {A : Option Addr} {c : Nat} {ss : List Nat} {w : World} (h : Pc w A c ss) (h4 : ss.length = 4) (k : Nat) (z : Int) (hz : (k : Int) = z) (hk : k < 4) (V : Int) (hV : ((gt ss k : Nat) : Int) = V) : Calls Try.prog 31 #[.agg #[.int .i64 1, .slice A 4 c], .int .i64 z] w fun e w' => e = .returned (.int .u32 V) ∧ Below w.heap.size w w' := by
 have hh := at_calls 1 A c ss k (by omega) (by omega) w h
 rw [h4, hz, hV] at hh
 exact hh
theorem outs4 (F : Nat → Nat) : (outs F 4).length = 4 := by simp [outs]
theorem v_D0 : ((gt (outs kD 4) 0 : Nat) : Int) = 1073741824 := by rw [gt_outs (by decide)]; decide +kernel
theorem v_D1 : ((gt (outs kD 4) 1 : Nat) : Int) = 2143289344 := by rw [gt_outs (by decide)]; decide +kernel
theorem v_Mu0 : ((gt (outs kM 4) 0 : Nat) : Int) = 1040187392 := by rw [gt_outs (by decide)]; decide +kernel
theorem v_Mu3 : ((gt (outs kM 4) 3 : Nat) : Int) = 1048576000 := by rw [gt_outs (by decide)]; decide +kernel
theorem v_Fa3 : ((gt (outs kF 4) 3 : Nat) : Int) = 1040187392 := by rw [gt_outs (by decide)]; decide +kernel
theorem v_X0 : ((gt (outs kX 4) 0 : Nat) : Int) = 1063256064 := by rw [gt_outs (by decide)]; decide +kernel
theorem v_Bt0 : ((gt (outs kB 4) 0 : Nat) : Int) = 1056964608 := by rw [gt_outs (by decide)]; decide +kernel
theorem k_no (w : World) : Calls Try.prog 11 #[.int .i64 7, .int .u32 0, .int .u32 0, .int .u32 0, .int .u32 0] w fun e w' => e = .returned (.tuple #[.int .u32 0, .int .i64 150]) ∧ Below w.heap.size w w' := One_no 0 0 0 0 w
theorem k_sg0 (w : World) : Calls Try.prog 28 #[.int .u32 1056964608] w fun e w' => ∃ r, e = .returned (.agg #[.int .i64 1, .int .i64 1, .slice (some ⟨r, 0, none⟩) 1 1]) ∧ w'.heap[r]? = some (.cells #[.int .u32 ((1056964608 : Nat) : Int)] 23 (0, 0)) ∧ Below w.heap.size w w' := single_calls 1056964608 w
theorem k_sg1 (w : World) : Calls Try.prog 28 #[.int .u32 2143289345] w fun e w' => ∃ r, e = .returned (.agg #[.int .i64 1, .int .i64 1, .slice (some ⟨r, 0, none⟩) 1 1]) ∧ w'.heap[r]? = some (.cells #[.int .u32 ((2143289345 : Nat) : Int)] 23 (0, 0)) ∧ Below w.heap.size w w' := single_calls 2143289345 w
theorem k_sg2 (w : World) : Calls Try.prog 28 #[.int .u32 0] w fun e w' => ∃ r, e = .returned (.agg #[.int .i64 1, .int .i64 1, .slice (some ⟨r, 0, none⟩) 1 1]) ∧ w'.heap[r]? = some (.cells #[.int .u32 ((0 : Nat) : Int)] 23 (0, 0)) ∧ Below w.heap.size w w' := single_calls 0 w
theorem k_sg3 (w : World) : Calls Try.prog 28 #[.int .u32 1048576000] w fun e w' => ∃ r, e = .returned (.agg #[.int .i64 1, .int .i64 1, .slice (some ⟨r, 0, none⟩) 1 1]) ∧ w'.heap[r]? = some (.cells #[.int .u32 ((1048576000 : Nat) : Int)] 23 (0, 0)) ∧ Below w.heap.size w w' := single_calls 1048576000 w
set_option maxHeartbeats 32000000 in
theorem known_calls (w : World) : Calls Try.prog 10 #[] w fun e w' => e = .returned (.bool true) ∧ Below w.heap.size w w' := by
 have hu33 := Try.underlying33
 have hu55 := Try.underlying55
 have B_0 : Aside0 (Below w.heap.size w w) := ⟨Below.refl _ _⟩
 go_enter Try.func10, Try.ntmps10
 go_wp2_with (first | (go_at_call 11; (with_reducible refine (k_one1 _).mono ?_); rintro e w1 ⟨rfl, hb⟩; have B_1 := Aside0.mk (below_step B_0.out hb); clear hb) | (go_at_call 11; (with_reducible refine (k_one2 _).mono ?_); rintro e w2 ⟨rfl, hb⟩; have B_2 := Aside0.mk (below_step B_1.out hb); clear hb) | (go_at_call 11; (with_reducible refine (k_one5 _).mono ?_); rintro e w3 ⟨rfl, hb⟩; have B_3 := Aside0.mk (below_step B_2.out hb); clear hb) | (go_at_call 11; (with_reducible refine (k_no _).mono ?_); rintro e w4 ⟨rfl, hb⟩; have B_4 := Aside0.mk (below_step B_3.out hb); clear hb) | (go_at_call 13; (with_reducible refine (k_stp1 _).mono ?_); rintro e w5 ⟨rfl, hb⟩; have B_5 := Aside0.mk (below_step B_4.out hb); clear hb) | (go_at_call 13; (with_reducible refine (k_stp2 _).mono ?_); rintro e w6 ⟨rfl, hb⟩; have B_6 := Aside0.mk (below_step B_5.out hb); clear hb) | (go_at_call 28; (with_reducible refine (k_sg0 _).mono ?_); rintro e w7 ⟨r0, rfl, hR, hb⟩; have B_7 := Aside0.mk (below_step B_6.out hb); have R0_7 := Aside0.mk (hR); clear hR; clear hb) | (go_at_call 28; (with_reducible refine (k_sg1 _).mono ?_); rintro e w8 ⟨r1, rfl, hR, hb⟩; have B_8 := Aside0.mk (below_step B_7.out hb); have R0_8 := Aside0.mk (blk_below R0_7.out hb); clear R0_7; have R1_8 := Aside0.mk (hR); clear hR; clear hb) | (go_at_call 28; (with_reducible refine (k_sg2 _).mono ?_); rintro e w9 ⟨r2, rfl, hR, hb⟩; have B_9 := Aside0.mk (below_step B_8.out hb); have R0_9 := Aside0.mk (blk_below R0_8.out hb); have R1_9 := Aside0.mk (blk_below R1_8.out hb); clear R0_8 R1_8; have R2_9 := Aside0.mk (hR); clear hR; clear hb) | (go_at_call 28; (with_reducible refine (k_sg3 _).mono ?_); rintro e w10 ⟨r3, rfl, hR, hb⟩; have B_10 := Aside0.mk (below_step B_9.out hb); have R0_10 := Aside0.mk (blk_below R0_9.out hb); have R1_10 := Aside0.mk (blk_below R1_9.out hb); have R2_10 := Aside0.mk (blk_below R2_9.out hb); clear R0_9 R1_9 R2_9; have R3_10 := Aside0.mk (hR); clear hR; clear hb) | ((with_reducible refine gate_dst (N := 66) rfl ?_); refine row_event ?hg (N := 66) ?hd (cs := #[.int .i64 1, .int .i64 1, .slice (some ⟨r0, 0, none⟩) 1 1, .int .i64 1, .int .i64 1, .slice (some ⟨r1, 0, none⟩) 1 1, .int .i64 1, .int .i64 1, .slice (some ⟨r2, 0, none⟩) 1 1, .int .i64 1, .int .i64 1, .slice (some ⟨r3, 0, none⟩) 1 1]) (t := 55) (len := 4) ?hr ?_; (case hd => rfl); (case hg => rfl); (case hr => first | (go_simp; done) | (go_simp; rfl)); intro g66 hg_ w11 hm_ hb_; have NER0L := Aside0.mk (show r0 ≠ g66 by rw [hg_]; have := blk_lt R0_10.out; omega); have NER1L := Aside0.mk (show r1 ≠ g66 by rw [hg_]; have := blk_lt R1_10.out; omega); have NER2L := Aside0.mk (show r2 ≠ g66 by rw [hg_]; have := blk_lt R2_10.out; omega); have NER3L := Aside0.mk (show r3 ≠ g66 by rw [hg_]; have := blk_lt R3_10.out; omega); have GL := Aside0.mk (show w.heap.size ≤ g66 by rw [hg_]; exact B_10.out.size); have B_11 := Aside0.mk (below_step B_10.out hb_); have R0_11 := Aside0.mk (blk_below R0_10.out hb_); have R1_11 := Aside0.mk (blk_below R1_10.out hb_); have R2_11 := Aside0.mk (blk_below R2_10.out hb_); have R3_11 := Aside0.mk (blk_below R3_10.out hb_); clear R0_10 R1_10 R2_10 R3_10; have L_11 := Aside0.mk (hm_); clear hm_ hb_ hg_) | ((with_reducible refine gate_dst (N := 9) rfl ?_); refine box_event ?hg (N := 9) ?hd (cs := #[.int .i64 0, .slice none 0 0]) (t := 33) ?hr ?_; (case hd => rfl); (case hg => rfl); (case hr => first | (go_simp; done) | (go_simp; rfl)); intro g9 hg_ w12 hm_ hb_; have NER0P := Aside0.mk (show r0 ≠ g9 by rw [hg_]; have := blk_lt R0_11.out; omega); have NER1P := Aside0.mk (show r1 ≠ g9 by rw [hg_]; have := blk_lt R1_11.out; omega); have NER2P := Aside0.mk (show r2 ≠ g9 by rw [hg_]; have := blk_lt R2_11.out; omega); have NER3P := Aside0.mk (show r3 ≠ g9 by rw [hg_]; have := blk_lt R3_11.out; omega); have NELP := Aside0.mk (show g66 ≠ g9 by rw [hg_]; have := blk_lt L_11.out; omega); have GP := Aside0.mk (show w.heap.size ≤ g9 by rw [hg_]; exact B_11.out.size); have B_12 := Aside0.mk (below_step B_11.out hb_); have R0_12 := Aside0.mk (blk_below R0_11.out hb_); have R1_12 := Aside0.mk (blk_below R1_11.out hb_); have R2_12 := Aside0.mk (blk_below R2_11.out hb_); have R3_12 := Aside0.mk (blk_below R3_11.out hb_); have L_12 := Aside0.mk (blk_below L_11.out hb_); clear R0_11 R1_11 R2_11 R3_11 L_11; have P_12 := Aside0.mk (hm_); have cP0 := (blk_cell P_12.out 0).trans rfl; have cP1 := (blk_cell P_12.out 1).trans rfl; clear hm_ hb_ hg_) | ((with_reducible refine gate_store (p := 9) rfl ?_); refine store_event rfl rfl rfl g9 #[.int .i64 1, .slice (some ⟨g66, 0, none⟩) 4 4] _ 33 rfl rfl P_12.out size33 rfl (by simp [Value.oneCell']) ?_; intro w13 hm_ hst_ hbl_; clear cP0 cP1; have B_13 := Aside0.mk (B_12.out.trans (hbl_ _ GP.out)); have R0_13 := Aside0.mk ((hst_ r0 NER0P.out).trans R0_12.out); have R1_13 := Aside0.mk ((hst_ r1 NER1P.out).trans R1_12.out); have R2_13 := Aside0.mk ((hst_ r2 NER2P.out).trans R2_12.out); have R3_13 := Aside0.mk ((hst_ r3 NER3P.out).trans R3_12.out); have L_13 := Aside0.mk ((hst_ g66 NELP.out).trans L_12.out); have P_13 := Aside0.mk (hm_); clear R0_12 R1_12 R2_12 R3_12 L_12 P_12 hm_ hst_ hbl_; have cP0 := (blk_cell P_13.out 0).trans rfl; have cP1 := (blk_cell P_13.out 1).trans rfl) | (go_at_call 30; refine (k_div (some ⟨g66, 0, none⟩) 4 _ (Pc.lit4 L_13.out R0_13.out R1_13.out R2_13.out R3_13.out)).mono ?_; rintro e w14 ⟨AD, cD, rfl, hZ, hb⟩; have LTR0D := Aside0.mk (show r0 < w13.heap.size from blk_lt R0_13.out); have LTR1D := Aside0.mk (show r1 < w13.heap.size from blk_lt R1_13.out); have LTR2D := Aside0.mk (show r2 < w13.heap.size from blk_lt R2_13.out); have LTR3D := Aside0.mk (show r3 < w13.heap.size from blk_lt R3_13.out); have LTLD := Aside0.mk (show g66 < w13.heap.size from blk_lt L_13.out); have LTPD := Aside0.mk (show g9 < w13.heap.size from blk_lt P_13.out); have GD_ := Aside0.mk (show w.heap.size ≤ w13.heap.size from B_13.out.size); clear cP0 cP1; have B_14 := Aside0.mk (below_step B_13.out hb); have R0_14 := Aside0.mk (blk_below R0_13.out hb); have R1_14 := Aside0.mk (blk_below R1_13.out hb); have R2_14 := Aside0.mk (blk_below R2_13.out hb); have R3_14 := Aside0.mk (blk_below R3_13.out hb); have L_14 := Aside0.mk (blk_below L_13.out hb); have P_14 := Aside0.mk (blk_below P_13.out hb); clear R0_13 R1_13 R2_13 R3_13 L_13 P_13; have cP0 := (blk_cell P_14.out 0).trans rfl; have cP1 := (blk_cell P_14.out 1).trans rfl; have D_14 := Aside0.mk (hZ); clear hZ; clear hb) | ((with_reducible refine gate_dst (N := 10) rfl ?_); refine box_event ?hg (N := 10) ?hd (cs := #[.int .i64 0, .slice none 0 0]) (t := 33) ?hr ?_; (case hd => rfl); (case hg => rfl); (case hr => first | (go_simp; done) | (go_simp; rfl)); intro g10 hg_ w15 hm_ hb_; have LEDBD := Aside0.mk (show w14.heap.size ≤ g10 by rw [hg_]; exact D_14.out.1); have NER0BD := Aside0.mk (show r0 ≠ g10 by rw [hg_]; have := blk_lt R0_14.out; omega); have NER1BD := Aside0.mk (show r1 ≠ g10 by rw [hg_]; have := blk_lt R1_14.out; omega); have NER2BD := Aside0.mk (show r2 ≠ g10 by rw [hg_]; have := blk_lt R2_14.out; omega); have NER3BD := Aside0.mk (show r3 ≠ g10 by rw [hg_]; have := blk_lt R3_14.out; omega); have NELBD := Aside0.mk (show g66 ≠ g10 by rw [hg_]; have := blk_lt L_14.out; omega); have NEPBD := Aside0.mk (show g9 ≠ g10 by rw [hg_]; have := blk_lt P_14.out; omega); have GBD := Aside0.mk (show w.heap.size ≤ g10 by rw [hg_]; exact B_14.out.size); clear cP0 cP1; have B_15 := Aside0.mk (below_step B_14.out hb_); have R0_15 := Aside0.mk (blk_below R0_14.out hb_); have R1_15 := Aside0.mk (blk_below R1_14.out hb_); have R2_15 := Aside0.mk (blk_below R2_14.out hb_); have R3_15 := Aside0.mk (blk_below R3_14.out hb_); have L_15 := Aside0.mk (blk_below L_14.out hb_); have P_15 := Aside0.mk (blk_below P_14.out hb_); clear R0_14 R1_14 R2_14 R3_14 L_14 P_14; have D_15 := Aside0.mk (Pf.below D_14.out hb_); clear D_14; have BD_15 := Aside0.mk (hm_); have cP0 := (blk_cell P_15.out 0).trans rfl; have cP1 := (blk_cell P_15.out 1).trans rfl; have cBD0 := (blk_cell BD_15.out 0).trans rfl; have cBD1 := (blk_cell BD_15.out 1).trans rfl; clear hm_ hb_ hg_) | ((with_reducible refine gate_store (p := 10) rfl ?_); refine store_event rfl rfl rfl g10 #[.int .i64 1, .slice AD 4 cD] _ 33 rfl rfl BD_15.out size33 rfl (by simp [Value.oneCell']) ?_; intro w16 hm_ hst_ hbl_; have D_16 := Aside0.mk (D_15.out.keep hst_ hbl_ (.inr LEDBD.out)); clear D_15; clear cP0 cP1 cBD0 cBD1; have B_16 := Aside0.mk (B_15.out.trans (hbl_ _ GBD.out)); have R0_16 := Aside0.mk ((hst_ r0 NER0BD.out).trans R0_15.out); have R1_16 := Aside0.mk ((hst_ r1 NER1BD.out).trans R1_15.out); have R2_16 := Aside0.mk ((hst_ r2 NER2BD.out).trans R2_15.out); have R3_16 := Aside0.mk ((hst_ r3 NER3BD.out).trans R3_15.out); have L_16 := Aside0.mk ((hst_ g66 NELBD.out).trans L_15.out); have P_16 := Aside0.mk ((hst_ g9 NEPBD.out).trans P_15.out); have BD_16 := Aside0.mk (hm_); clear R0_15 R1_15 R2_15 R3_15 L_15 P_15 BD_15 hm_ hst_ hbl_; have cP0 := (blk_cell P_16.out 0).trans rfl; have cP1 := (blk_cell P_16.out 1).trans rfl; have cBD0 := (blk_cell BD_16.out 0).trans rfl; have cBD1 := (blk_cell BD_16.out 1).trans rfl) | (go_at_call 29; refine (k_mul (some ⟨g66, 0, none⟩) 4 _ (Pc.lit4 L_16.out R0_16.out R1_16.out R2_16.out R3_16.out)).mono ?_; rintro e w17 ⟨AMu, cMu, rfl, hZ, hb⟩; have LTR0Mu := Aside0.mk (show r0 < w16.heap.size from blk_lt R0_16.out); have LTR1Mu := Aside0.mk (show r1 < w16.heap.size from blk_lt R1_16.out); have LTR2Mu := Aside0.mk (show r2 < w16.heap.size from blk_lt R2_16.out); have LTR3Mu := Aside0.mk (show r3 < w16.heap.size from blk_lt R3_16.out); have LTLMu := Aside0.mk (show g66 < w16.heap.size from blk_lt L_16.out); have LTPMu := Aside0.mk (show g9 < w16.heap.size from blk_lt P_16.out); have LTBDMu := Aside0.mk (show g10 < w16.heap.size from blk_lt BD_16.out); have GMu_ := Aside0.mk (show w.heap.size ≤ w16.heap.size from B_16.out.size); clear cP0 cP1 cBD0 cBD1; have B_17 := Aside0.mk (below_step B_16.out hb); have R0_17 := Aside0.mk (blk_below R0_16.out hb); have R1_17 := Aside0.mk (blk_below R1_16.out hb); have R2_17 := Aside0.mk (blk_below R2_16.out hb); have R3_17 := Aside0.mk (blk_below R3_16.out hb); have L_17 := Aside0.mk (blk_below L_16.out hb); have P_17 := Aside0.mk (blk_below P_16.out hb); have BD_17 := Aside0.mk (blk_below BD_16.out hb); clear R0_16 R1_16 R2_16 R3_16 L_16 P_16 BD_16; have D_17 := Aside0.mk (Pf.below D_16.out hb); clear D_16; have cP0 := (blk_cell P_17.out 0).trans rfl; have cP1 := (blk_cell P_17.out 1).trans rfl; have cBD0 := (blk_cell BD_17.out 0).trans rfl; have cBD1 := (blk_cell BD_17.out 1).trans rfl; have Mu_17 := Aside0.mk (hZ); clear hZ; clear hb) | ((with_reducible refine gate_dst (N := 12) rfl ?_); refine box_event ?hg (N := 12) ?hd (cs := #[.int .i64 0, .slice none 0 0]) (t := 33) ?hr ?_; (case hd => rfl); (case hg => rfl); (case hr => first | (go_simp; done) | (go_simp; rfl)); intro g12 hg_ w18 hm_ hb_; have LEDBM := Aside0.mk (show w14.heap.size ≤ g12 by rw [hg_]; exact D_17.out.1); have LEMuBM := Aside0.mk (show w17.heap.size ≤ g12 by rw [hg_]; exact Mu_17.out.1); have NER0BM := Aside0.mk (show r0 ≠ g12 by rw [hg_]; have := blk_lt R0_17.out; omega); have NER1BM := Aside0.mk (show r1 ≠ g12 by rw [hg_]; have := blk_lt R1_17.out; omega); have NER2BM := Aside0.mk (show r2 ≠ g12 by rw [hg_]; have := blk_lt R2_17.out; omega); have NER3BM := Aside0.mk (show r3 ≠ g12 by rw [hg_]; have := blk_lt R3_17.out; omega); have NELBM := Aside0.mk (show g66 ≠ g12 by rw [hg_]; have := blk_lt L_17.out; omega); have NEPBM := Aside0.mk (show g9 ≠ g12 by rw [hg_]; have := blk_lt P_17.out; omega); have NEBDBM := Aside0.mk (show g10 ≠ g12 by rw [hg_]; have := blk_lt BD_17.out; omega); have GBM := Aside0.mk (show w.heap.size ≤ g12 by rw [hg_]; exact B_17.out.size); clear cP0 cP1 cBD0 cBD1; have B_18 := Aside0.mk (below_step B_17.out hb_); have R0_18 := Aside0.mk (blk_below R0_17.out hb_); have R1_18 := Aside0.mk (blk_below R1_17.out hb_); have R2_18 := Aside0.mk (blk_below R2_17.out hb_); have R3_18 := Aside0.mk (blk_below R3_17.out hb_); have L_18 := Aside0.mk (blk_below L_17.out hb_); have P_18 := Aside0.mk (blk_below P_17.out hb_); have BD_18 := Aside0.mk (blk_below BD_17.out hb_); clear R0_17 R1_17 R2_17 R3_17 L_17 P_17 BD_17; have D_18 := Aside0.mk (Pf.below D_17.out hb_); have Mu_18 := Aside0.mk (Pf.below Mu_17.out hb_); clear D_17 Mu_17; have BM_18 := Aside0.mk (hm_); have cP0 := (blk_cell P_18.out 0).trans rfl; have cP1 := (blk_cell P_18.out 1).trans rfl; have cBD0 := (blk_cell BD_18.out 0).trans rfl; have cBD1 := (blk_cell BD_18.out 1).trans rfl; have cBM0 := (blk_cell BM_18.out 0).trans rfl; have cBM1 := (blk_cell BM_18.out 1).trans rfl; clear hm_ hb_ hg_) | ((with_reducible refine gate_store (p := 12) rfl ?_); refine store_event rfl rfl rfl g12 #[.int .i64 1, .slice AMu 4 cMu] _ 33 rfl rfl BM_18.out size33 rfl (by simp [Value.oneCell']) ?_; intro w19 hm_ hst_ hbl_; have D_19 := Aside0.mk (D_18.out.keep hst_ hbl_ (.inr LEDBM.out)); have Mu_19 := Aside0.mk (Mu_18.out.keep hst_ hbl_ (.inr LEMuBM.out)); clear D_18 Mu_18; clear cP0 cP1 cBD0 cBD1 cBM0 cBM1; have B_19 := Aside0.mk (B_18.out.trans (hbl_ _ GBM.out)); have R0_19 := Aside0.mk ((hst_ r0 NER0BM.out).trans R0_18.out); have R1_19 := Aside0.mk ((hst_ r1 NER1BM.out).trans R1_18.out); have R2_19 := Aside0.mk ((hst_ r2 NER2BM.out).trans R2_18.out); have R3_19 := Aside0.mk ((hst_ r3 NER3BM.out).trans R3_18.out); have L_19 := Aside0.mk ((hst_ g66 NELBM.out).trans L_18.out); have P_19 := Aside0.mk ((hst_ g9 NEPBM.out).trans P_18.out); have BD_19 := Aside0.mk ((hst_ g10 NEBDBM.out).trans BD_18.out); have BM_19 := Aside0.mk (hm_); clear R0_18 R1_18 R2_18 R3_18 L_18 P_18 BD_18 BM_18 hm_ hst_ hbl_; have cP0 := (blk_cell P_19.out 0).trans rfl; have cP1 := (blk_cell P_19.out 1).trans rfl; have cBD0 := (blk_cell BD_19.out 0).trans rfl; have cBD1 := (blk_cell BD_19.out 1).trans rfl; have cBM0 := (blk_cell BM_19.out 0).trans rfl; have cBM1 := (blk_cell BM_19.out 1).trans rfl) | (go_at_call 32; refine (k_fad (some ⟨g66, 0, none⟩) 4 _ (Pc.lit4 L_19.out R0_19.out R1_19.out R2_19.out R3_19.out)).mono ?_; rintro e w20 ⟨AFa, cFa, rfl, hZ, hb⟩; have LTR0Fa := Aside0.mk (show r0 < w19.heap.size from blk_lt R0_19.out); have LTR1Fa := Aside0.mk (show r1 < w19.heap.size from blk_lt R1_19.out); have LTR2Fa := Aside0.mk (show r2 < w19.heap.size from blk_lt R2_19.out); have LTR3Fa := Aside0.mk (show r3 < w19.heap.size from blk_lt R3_19.out); have LTLFa := Aside0.mk (show g66 < w19.heap.size from blk_lt L_19.out); have LTPFa := Aside0.mk (show g9 < w19.heap.size from blk_lt P_19.out); have LTBDFa := Aside0.mk (show g10 < w19.heap.size from blk_lt BD_19.out); have LTBMFa := Aside0.mk (show g12 < w19.heap.size from blk_lt BM_19.out); have GFa_ := Aside0.mk (show w.heap.size ≤ w19.heap.size from B_19.out.size); clear cP0 cP1 cBD0 cBD1 cBM0 cBM1; have B_20 := Aside0.mk (below_step B_19.out hb); have R0_20 := Aside0.mk (blk_below R0_19.out hb); have R1_20 := Aside0.mk (blk_below R1_19.out hb); have R2_20 := Aside0.mk (blk_below R2_19.out hb); have R3_20 := Aside0.mk (blk_below R3_19.out hb); have L_20 := Aside0.mk (blk_below L_19.out hb); have P_20 := Aside0.mk (blk_below P_19.out hb); have BD_20 := Aside0.mk (blk_below BD_19.out hb); have BM_20 := Aside0.mk (blk_below BM_19.out hb); clear R0_19 R1_19 R2_19 R3_19 L_19 P_19 BD_19 BM_19; have D_20 := Aside0.mk (Pf.below D_19.out hb); have Mu_20 := Aside0.mk (Pf.below Mu_19.out hb); clear D_19 Mu_19; have cP0 := (blk_cell P_20.out 0).trans rfl; have cP1 := (blk_cell P_20.out 1).trans rfl; have cBD0 := (blk_cell BD_20.out 0).trans rfl; have cBD1 := (blk_cell BD_20.out 1).trans rfl; have cBM0 := (blk_cell BM_20.out 0).trans rfl; have cBM1 := (blk_cell BM_20.out 1).trans rfl; have Fa_20 := Aside0.mk (hZ); clear hZ; clear hb) | ((with_reducible refine gate_dst (N := 14) rfl ?_); refine box_event ?hg (N := 14) ?hd (cs := #[.int .i64 0, .slice none 0 0]) (t := 33) ?hr ?_; (case hd => rfl); (case hg => rfl); (case hr => first | (go_simp; done) | (go_simp; rfl)); intro g14 hg_ w21 hm_ hb_; have LEDBF := Aside0.mk (show w14.heap.size ≤ g14 by rw [hg_]; exact D_20.out.1); have LEMuBF := Aside0.mk (show w17.heap.size ≤ g14 by rw [hg_]; exact Mu_20.out.1); have LEFaBF := Aside0.mk (show w20.heap.size ≤ g14 by rw [hg_]; exact Fa_20.out.1); have NER0BF := Aside0.mk (show r0 ≠ g14 by rw [hg_]; have := blk_lt R0_20.out; omega); have NER1BF := Aside0.mk (show r1 ≠ g14 by rw [hg_]; have := blk_lt R1_20.out; omega); have NER2BF := Aside0.mk (show r2 ≠ g14 by rw [hg_]; have := blk_lt R2_20.out; omega); have NER3BF := Aside0.mk (show r3 ≠ g14 by rw [hg_]; have := blk_lt R3_20.out; omega); have NELBF := Aside0.mk (show g66 ≠ g14 by rw [hg_]; have := blk_lt L_20.out; omega); have NEPBF := Aside0.mk (show g9 ≠ g14 by rw [hg_]; have := blk_lt P_20.out; omega); have NEBDBF := Aside0.mk (show g10 ≠ g14 by rw [hg_]; have := blk_lt BD_20.out; omega); have NEBMBF := Aside0.mk (show g12 ≠ g14 by rw [hg_]; have := blk_lt BM_20.out; omega); have GBF := Aside0.mk (show w.heap.size ≤ g14 by rw [hg_]; exact B_20.out.size); clear cP0 cP1 cBD0 cBD1 cBM0 cBM1; have B_21 := Aside0.mk (below_step B_20.out hb_); have R0_21 := Aside0.mk (blk_below R0_20.out hb_); have R1_21 := Aside0.mk (blk_below R1_20.out hb_); have R2_21 := Aside0.mk (blk_below R2_20.out hb_); have R3_21 := Aside0.mk (blk_below R3_20.out hb_); have L_21 := Aside0.mk (blk_below L_20.out hb_); have P_21 := Aside0.mk (blk_below P_20.out hb_); have BD_21 := Aside0.mk (blk_below BD_20.out hb_); have BM_21 := Aside0.mk (blk_below BM_20.out hb_); clear R0_20 R1_20 R2_20 R3_20 L_20 P_20 BD_20 BM_20; have D_21 := Aside0.mk (Pf.below D_20.out hb_); have Mu_21 := Aside0.mk (Pf.below Mu_20.out hb_); have Fa_21 := Aside0.mk (Pf.below Fa_20.out hb_); clear D_20 Mu_20 Fa_20; have BF_21 := Aside0.mk (hm_); have cP0 := (blk_cell P_21.out 0).trans rfl; have cP1 := (blk_cell P_21.out 1).trans rfl; have cBD0 := (blk_cell BD_21.out 0).trans rfl; have cBD1 := (blk_cell BD_21.out 1).trans rfl; have cBM0 := (blk_cell BM_21.out 0).trans rfl; have cBM1 := (blk_cell BM_21.out 1).trans rfl; have cBF0 := (blk_cell BF_21.out 0).trans rfl; have cBF1 := (blk_cell BF_21.out 1).trans rfl; clear hm_ hb_ hg_) | ((with_reducible refine gate_store (p := 14) rfl ?_); refine store_event rfl rfl rfl g14 #[.int .i64 1, .slice AFa 4 cFa] _ 33 rfl rfl BF_21.out size33 rfl (by simp [Value.oneCell']) ?_; intro w22 hm_ hst_ hbl_; have D_22 := Aside0.mk (D_21.out.keep hst_ hbl_ (.inr LEDBF.out)); have Mu_22 := Aside0.mk (Mu_21.out.keep hst_ hbl_ (.inr LEMuBF.out)); have Fa_22 := Aside0.mk (Fa_21.out.keep hst_ hbl_ (.inr LEFaBF.out)); clear D_21 Mu_21 Fa_21; clear cP0 cP1 cBD0 cBD1 cBM0 cBM1 cBF0 cBF1; have B_22 := Aside0.mk (B_21.out.trans (hbl_ _ GBF.out)); have R0_22 := Aside0.mk ((hst_ r0 NER0BF.out).trans R0_21.out); have R1_22 := Aside0.mk ((hst_ r1 NER1BF.out).trans R1_21.out); have R2_22 := Aside0.mk ((hst_ r2 NER2BF.out).trans R2_21.out); have R3_22 := Aside0.mk ((hst_ r3 NER3BF.out).trans R3_21.out); have L_22 := Aside0.mk ((hst_ g66 NELBF.out).trans L_21.out); have P_22 := Aside0.mk ((hst_ g9 NEPBF.out).trans P_21.out); have BD_22 := Aside0.mk ((hst_ g10 NEBDBF.out).trans BD_21.out); have BM_22 := Aside0.mk ((hst_ g12 NEBMBF.out).trans BM_21.out); have BF_22 := Aside0.mk (hm_); clear R0_21 R1_21 R2_21 R3_21 L_21 P_21 BD_21 BM_21 BF_21 hm_ hst_ hbl_; have cP0 := (blk_cell P_22.out 0).trans rfl; have cP1 := (blk_cell P_22.out 1).trans rfl; have cBD0 := (blk_cell BD_22.out 0).trans rfl; have cBD1 := (blk_cell BD_22.out 1).trans rfl; have cBM0 := (blk_cell BM_22.out 0).trans rfl; have cBM1 := (blk_cell BM_22.out 1).trans rfl; have cBF0 := (blk_cell BF_22.out 0).trans rfl; have cBF1 := (blk_cell BF_22.out 1).trans rfl) | (go_at_call 18; refine (k_mix (some ⟨g66, 0, none⟩) 4 _ (Pc.lit4 L_22.out R0_22.out R1_22.out R2_22.out R3_22.out)).mono ?_; rintro e w23 ⟨AX, cX, rfl, hZ, hb⟩; have LTR0X := Aside0.mk (show r0 < w22.heap.size from blk_lt R0_22.out); have LTR1X := Aside0.mk (show r1 < w22.heap.size from blk_lt R1_22.out); have LTR2X := Aside0.mk (show r2 < w22.heap.size from blk_lt R2_22.out); have LTR3X := Aside0.mk (show r3 < w22.heap.size from blk_lt R3_22.out); have LTLX := Aside0.mk (show g66 < w22.heap.size from blk_lt L_22.out); have LTPX := Aside0.mk (show g9 < w22.heap.size from blk_lt P_22.out); have LTBDX := Aside0.mk (show g10 < w22.heap.size from blk_lt BD_22.out); have LTBMX := Aside0.mk (show g12 < w22.heap.size from blk_lt BM_22.out); have LTBFX := Aside0.mk (show g14 < w22.heap.size from blk_lt BF_22.out); have GX_ := Aside0.mk (show w.heap.size ≤ w22.heap.size from B_22.out.size); clear cP0 cP1 cBD0 cBD1 cBM0 cBM1 cBF0 cBF1; have B_23 := Aside0.mk (below_step B_22.out hb); have R0_23 := Aside0.mk (blk_below R0_22.out hb); have R1_23 := Aside0.mk (blk_below R1_22.out hb); have R2_23 := Aside0.mk (blk_below R2_22.out hb); have R3_23 := Aside0.mk (blk_below R3_22.out hb); have L_23 := Aside0.mk (blk_below L_22.out hb); have P_23 := Aside0.mk (blk_below P_22.out hb); have BD_23 := Aside0.mk (blk_below BD_22.out hb); have BM_23 := Aside0.mk (blk_below BM_22.out hb); have BF_23 := Aside0.mk (blk_below BF_22.out hb); clear R0_22 R1_22 R2_22 R3_22 L_22 P_22 BD_22 BM_22 BF_22; have D_23 := Aside0.mk (Pf.below D_22.out hb); have Mu_23 := Aside0.mk (Pf.below Mu_22.out hb); have Fa_23 := Aside0.mk (Pf.below Fa_22.out hb); clear D_22 Mu_22 Fa_22; have cP0 := (blk_cell P_23.out 0).trans rfl; have cP1 := (blk_cell P_23.out 1).trans rfl; have cBD0 := (blk_cell BD_23.out 0).trans rfl; have cBD1 := (blk_cell BD_23.out 1).trans rfl; have cBM0 := (blk_cell BM_23.out 0).trans rfl; have cBM1 := (blk_cell BM_23.out 1).trans rfl; have cBF0 := (blk_cell BF_23.out 0).trans rfl; have cBF1 := (blk_cell BF_23.out 1).trans rfl; have X_23 := Aside0.mk (hZ); clear hZ; clear hb) | ((with_reducible refine gate_dst (N := 16) rfl ?_); refine box_event ?hg (N := 16) ?hd (cs := #[.int .i64 0, .slice none 0 0]) (t := 33) ?hr ?_; (case hd => rfl); (case hg => rfl); (case hr => first | (go_simp; done) | (go_simp; rfl)); intro g16 hg_ w24 hm_ hb_; have LEDBX := Aside0.mk (show w14.heap.size ≤ g16 by rw [hg_]; exact D_23.out.1); have LEMuBX := Aside0.mk (show w17.heap.size ≤ g16 by rw [hg_]; exact Mu_23.out.1); have LEFaBX := Aside0.mk (show w20.heap.size ≤ g16 by rw [hg_]; exact Fa_23.out.1); have LEXBX := Aside0.mk (show w23.heap.size ≤ g16 by rw [hg_]; exact X_23.out.1); have NER0BX := Aside0.mk (show r0 ≠ g16 by rw [hg_]; have := blk_lt R0_23.out; omega); have NER1BX := Aside0.mk (show r1 ≠ g16 by rw [hg_]; have := blk_lt R1_23.out; omega); have NER2BX := Aside0.mk (show r2 ≠ g16 by rw [hg_]; have := blk_lt R2_23.out; omega); have NER3BX := Aside0.mk (show r3 ≠ g16 by rw [hg_]; have := blk_lt R3_23.out; omega); have NELBX := Aside0.mk (show g66 ≠ g16 by rw [hg_]; have := blk_lt L_23.out; omega); have NEPBX := Aside0.mk (show g9 ≠ g16 by rw [hg_]; have := blk_lt P_23.out; omega); have NEBDBX := Aside0.mk (show g10 ≠ g16 by rw [hg_]; have := blk_lt BD_23.out; omega); have NEBMBX := Aside0.mk (show g12 ≠ g16 by rw [hg_]; have := blk_lt BM_23.out; omega); have NEBFBX := Aside0.mk (show g14 ≠ g16 by rw [hg_]; have := blk_lt BF_23.out; omega); have GBX := Aside0.mk (show w.heap.size ≤ g16 by rw [hg_]; exact B_23.out.size); clear cP0 cP1 cBD0 cBD1 cBM0 cBM1 cBF0 cBF1; have B_24 := Aside0.mk (below_step B_23.out hb_); have R0_24 := Aside0.mk (blk_below R0_23.out hb_); have R1_24 := Aside0.mk (blk_below R1_23.out hb_); have R2_24 := Aside0.mk (blk_below R2_23.out hb_); have R3_24 := Aside0.mk (blk_below R3_23.out hb_); have L_24 := Aside0.mk (blk_below L_23.out hb_); have P_24 := Aside0.mk (blk_below P_23.out hb_); have BD_24 := Aside0.mk (blk_below BD_23.out hb_); have BM_24 := Aside0.mk (blk_below BM_23.out hb_); have BF_24 := Aside0.mk (blk_below BF_23.out hb_); clear R0_23 R1_23 R2_23 R3_23 L_23 P_23 BD_23 BM_23 BF_23; have D_24 := Aside0.mk (Pf.below D_23.out hb_); have Mu_24 := Aside0.mk (Pf.below Mu_23.out hb_); have Fa_24 := Aside0.mk (Pf.below Fa_23.out hb_); have X_24 := Aside0.mk (Pf.below X_23.out hb_); clear D_23 Mu_23 Fa_23 X_23; have BX_24 := Aside0.mk (hm_); have cP0 := (blk_cell P_24.out 0).trans rfl; have cP1 := (blk_cell P_24.out 1).trans rfl; have cBD0 := (blk_cell BD_24.out 0).trans rfl; have cBD1 := (blk_cell BD_24.out 1).trans rfl; have cBM0 := (blk_cell BM_24.out 0).trans rfl; have cBM1 := (blk_cell BM_24.out 1).trans rfl; have cBF0 := (blk_cell BF_24.out 0).trans rfl; have cBF1 := (blk_cell BF_24.out 1).trans rfl; have cBX0 := (blk_cell BX_24.out 0).trans rfl; have cBX1 := (blk_cell BX_24.out 1).trans rfl; clear hm_ hb_ hg_) | ((with_reducible refine gate_store (p := 16) rfl ?_); refine store_event rfl rfl rfl g16 #[.int .i64 1, .slice AX 4 cX] _ 33 rfl rfl BX_24.out size33 rfl (by simp [Value.oneCell']) ?_; intro w25 hm_ hst_ hbl_; have D_25 := Aside0.mk (D_24.out.keep hst_ hbl_ (.inr LEDBX.out)); have Mu_25 := Aside0.mk (Mu_24.out.keep hst_ hbl_ (.inr LEMuBX.out)); have Fa_25 := Aside0.mk (Fa_24.out.keep hst_ hbl_ (.inr LEFaBX.out)); have X_25 := Aside0.mk (X_24.out.keep hst_ hbl_ (.inr LEXBX.out)); clear D_24 Mu_24 Fa_24 X_24; clear cP0 cP1 cBD0 cBD1 cBM0 cBM1 cBF0 cBF1 cBX0 cBX1; have B_25 := Aside0.mk (B_24.out.trans (hbl_ _ GBX.out)); have R0_25 := Aside0.mk ((hst_ r0 NER0BX.out).trans R0_24.out); have R1_25 := Aside0.mk ((hst_ r1 NER1BX.out).trans R1_24.out); have R2_25 := Aside0.mk ((hst_ r2 NER2BX.out).trans R2_24.out); have R3_25 := Aside0.mk ((hst_ r3 NER3BX.out).trans R3_24.out); have L_25 := Aside0.mk ((hst_ g66 NELBX.out).trans L_24.out); have P_25 := Aside0.mk ((hst_ g9 NEPBX.out).trans P_24.out); have BD_25 := Aside0.mk ((hst_ g10 NEBDBX.out).trans BD_24.out); have BM_25 := Aside0.mk ((hst_ g12 NEBMBX.out).trans BM_24.out); have BF_25 := Aside0.mk ((hst_ g14 NEBFBX.out).trans BF_24.out); have BX_25 := Aside0.mk (hm_); clear R0_24 R1_24 R2_24 R3_24 L_24 P_24 BD_24 BM_24 BF_24 BX_24 hm_ hst_ hbl_; have cP0 := (blk_cell P_25.out 0).trans rfl; have cP1 := (blk_cell P_25.out 1).trans rfl; have cBD0 := (blk_cell BD_25.out 0).trans rfl; have cBD1 := (blk_cell BD_25.out 1).trans rfl; have cBM0 := (blk_cell BM_25.out 0).trans rfl; have cBM1 := (blk_cell BM_25.out 1).trans rfl; have cBF0 := (blk_cell BF_25.out 0).trans rfl; have cBF1 := (blk_cell BF_25.out 1).trans rfl; have cBX0 := (blk_cell BX_25.out 0).trans rfl; have cBX1 := (blk_cell BX_25.out 1).trans rfl) | (go_at_call 33; refine (k_btw (some ⟨g66, 0, none⟩) 4 _ (Pc.lit4 L_25.out R0_25.out R1_25.out R2_25.out R3_25.out)).mono ?_; rintro e w26 ⟨ABt, cBt, rfl, hZ, hb⟩; have LTR0Bt := Aside0.mk (show r0 < w25.heap.size from blk_lt R0_25.out); have LTR1Bt := Aside0.mk (show r1 < w25.heap.size from blk_lt R1_25.out); have LTR2Bt := Aside0.mk (show r2 < w25.heap.size from blk_lt R2_25.out); have LTR3Bt := Aside0.mk (show r3 < w25.heap.size from blk_lt R3_25.out); have LTLBt := Aside0.mk (show g66 < w25.heap.size from blk_lt L_25.out); have LTPBt := Aside0.mk (show g9 < w25.heap.size from blk_lt P_25.out); have LTBDBt := Aside0.mk (show g10 < w25.heap.size from blk_lt BD_25.out); have LTBMBt := Aside0.mk (show g12 < w25.heap.size from blk_lt BM_25.out); have LTBFBt := Aside0.mk (show g14 < w25.heap.size from blk_lt BF_25.out); have LTBXBt := Aside0.mk (show g16 < w25.heap.size from blk_lt BX_25.out); have GBt_ := Aside0.mk (show w.heap.size ≤ w25.heap.size from B_25.out.size); clear cP0 cP1 cBD0 cBD1 cBM0 cBM1 cBF0 cBF1 cBX0 cBX1; have B_26 := Aside0.mk (below_step B_25.out hb); have R0_26 := Aside0.mk (blk_below R0_25.out hb); have R1_26 := Aside0.mk (blk_below R1_25.out hb); have R2_26 := Aside0.mk (blk_below R2_25.out hb); have R3_26 := Aside0.mk (blk_below R3_25.out hb); have L_26 := Aside0.mk (blk_below L_25.out hb); have P_26 := Aside0.mk (blk_below P_25.out hb); have BD_26 := Aside0.mk (blk_below BD_25.out hb); have BM_26 := Aside0.mk (blk_below BM_25.out hb); have BF_26 := Aside0.mk (blk_below BF_25.out hb); have BX_26 := Aside0.mk (blk_below BX_25.out hb); clear R0_25 R1_25 R2_25 R3_25 L_25 P_25 BD_25 BM_25 BF_25 BX_25; have D_26 := Aside0.mk (Pf.below D_25.out hb); have Mu_26 := Aside0.mk (Pf.below Mu_25.out hb); have Fa_26 := Aside0.mk (Pf.below Fa_25.out hb); have X_26 := Aside0.mk (Pf.below X_25.out hb); clear D_25 Mu_25 Fa_25 X_25; have cP0 := (blk_cell P_26.out 0).trans rfl; have cP1 := (blk_cell P_26.out 1).trans rfl; have cBD0 := (blk_cell BD_26.out 0).trans rfl; have cBD1 := (blk_cell BD_26.out 1).trans rfl; have cBM0 := (blk_cell BM_26.out 0).trans rfl; have cBM1 := (blk_cell BM_26.out 1).trans rfl; have cBF0 := (blk_cell BF_26.out 0).trans rfl; have cBF1 := (blk_cell BF_26.out 1).trans rfl; have cBX0 := (blk_cell BX_26.out 0).trans rfl; have cBX1 := (blk_cell BX_26.out 1).trans rfl; have Bt_26 := Aside0.mk (hZ); clear hZ; clear hb) | ((with_reducible refine gate_dst (N := 18) rfl ?_); refine box_event ?hg (N := 18) ?hd (cs := #[.int .i64 0, .slice none 0 0]) (t := 33) ?hr ?_; (case hd => rfl); (case hg => rfl); (case hr => first | (go_simp; done) | (go_simp; rfl)); intro g18 hg_ w27 hm_ hb_; have LEDBB := Aside0.mk (show w14.heap.size ≤ g18 by rw [hg_]; exact D_26.out.1); have LEMuBB := Aside0.mk (show w17.heap.size ≤ g18 by rw [hg_]; exact Mu_26.out.1); have LEFaBB := Aside0.mk (show w20.heap.size ≤ g18 by rw [hg_]; exact Fa_26.out.1); have LEXBB := Aside0.mk (show w23.heap.size ≤ g18 by rw [hg_]; exact X_26.out.1); have LEBtBB := Aside0.mk (show w26.heap.size ≤ g18 by rw [hg_]; exact Bt_26.out.1); have NER0BB := Aside0.mk (show r0 ≠ g18 by rw [hg_]; have := blk_lt R0_26.out; omega); have NER1BB := Aside0.mk (show r1 ≠ g18 by rw [hg_]; have := blk_lt R1_26.out; omega); have NER2BB := Aside0.mk (show r2 ≠ g18 by rw [hg_]; have := blk_lt R2_26.out; omega); have NER3BB := Aside0.mk (show r3 ≠ g18 by rw [hg_]; have := blk_lt R3_26.out; omega); have NELBB := Aside0.mk (show g66 ≠ g18 by rw [hg_]; have := blk_lt L_26.out; omega); have NEPBB := Aside0.mk (show g9 ≠ g18 by rw [hg_]; have := blk_lt P_26.out; omega); have NEBDBB := Aside0.mk (show g10 ≠ g18 by rw [hg_]; have := blk_lt BD_26.out; omega); have NEBMBB := Aside0.mk (show g12 ≠ g18 by rw [hg_]; have := blk_lt BM_26.out; omega); have NEBFBB := Aside0.mk (show g14 ≠ g18 by rw [hg_]; have := blk_lt BF_26.out; omega); have NEBXBB := Aside0.mk (show g16 ≠ g18 by rw [hg_]; have := blk_lt BX_26.out; omega); have GBB := Aside0.mk (show w.heap.size ≤ g18 by rw [hg_]; exact B_26.out.size); clear cP0 cP1 cBD0 cBD1 cBM0 cBM1 cBF0 cBF1 cBX0 cBX1; have B_27 := Aside0.mk (below_step B_26.out hb_); have R0_27 := Aside0.mk (blk_below R0_26.out hb_); have R1_27 := Aside0.mk (blk_below R1_26.out hb_); have R2_27 := Aside0.mk (blk_below R2_26.out hb_); have R3_27 := Aside0.mk (blk_below R3_26.out hb_); have L_27 := Aside0.mk (blk_below L_26.out hb_); have P_27 := Aside0.mk (blk_below P_26.out hb_); have BD_27 := Aside0.mk (blk_below BD_26.out hb_); have BM_27 := Aside0.mk (blk_below BM_26.out hb_); have BF_27 := Aside0.mk (blk_below BF_26.out hb_); have BX_27 := Aside0.mk (blk_below BX_26.out hb_); clear R0_26 R1_26 R2_26 R3_26 L_26 P_26 BD_26 BM_26 BF_26 BX_26; have D_27 := Aside0.mk (Pf.below D_26.out hb_); have Mu_27 := Aside0.mk (Pf.below Mu_26.out hb_); have Fa_27 := Aside0.mk (Pf.below Fa_26.out hb_); have X_27 := Aside0.mk (Pf.below X_26.out hb_); have Bt_27 := Aside0.mk (Pf.below Bt_26.out hb_); clear D_26 Mu_26 Fa_26 X_26 Bt_26; have BB_27 := Aside0.mk (hm_); have cP0 := (blk_cell P_27.out 0).trans rfl; have cP1 := (blk_cell P_27.out 1).trans rfl; have cBD0 := (blk_cell BD_27.out 0).trans rfl; have cBD1 := (blk_cell BD_27.out 1).trans rfl; have cBM0 := (blk_cell BM_27.out 0).trans rfl; have cBM1 := (blk_cell BM_27.out 1).trans rfl; have cBF0 := (blk_cell BF_27.out 0).trans rfl; have cBF1 := (blk_cell BF_27.out 1).trans rfl; have cBX0 := (blk_cell BX_27.out 0).trans rfl; have cBX1 := (blk_cell BX_27.out 1).trans rfl; have cBB0 := (blk_cell BB_27.out 0).trans rfl; have cBB1 := (blk_cell BB_27.out 1).trans rfl; clear hm_ hb_ hg_) | ((with_reducible refine gate_store (p := 18) rfl ?_); refine store_event rfl rfl rfl g18 #[.int .i64 1, .slice ABt 4 cBt] _ 33 rfl rfl BB_27.out size33 rfl (by simp [Value.oneCell']) ?_; intro w28 hm_ hst_ hbl_; have D_28 := Aside0.mk (D_27.out.keep hst_ hbl_ (.inr LEDBB.out)); have Mu_28 := Aside0.mk (Mu_27.out.keep hst_ hbl_ (.inr LEMuBB.out)); have Fa_28 := Aside0.mk (Fa_27.out.keep hst_ hbl_ (.inr LEFaBB.out)); have X_28 := Aside0.mk (X_27.out.keep hst_ hbl_ (.inr LEXBB.out)); have Bt_28 := Aside0.mk (Bt_27.out.keep hst_ hbl_ (.inr LEBtBB.out)); clear D_27 Mu_27 Fa_27 X_27 Bt_27; clear cP0 cP1 cBD0 cBD1 cBM0 cBM1 cBF0 cBF1 cBX0 cBX1 cBB0 cBB1; have B_28 := Aside0.mk (B_27.out.trans (hbl_ _ GBB.out)); have R0_28 := Aside0.mk ((hst_ r0 NER0BB.out).trans R0_27.out); have R1_28 := Aside0.mk ((hst_ r1 NER1BB.out).trans R1_27.out); have R2_28 := Aside0.mk ((hst_ r2 NER2BB.out).trans R2_27.out); have R3_28 := Aside0.mk ((hst_ r3 NER3BB.out).trans R3_27.out); have L_28 := Aside0.mk ((hst_ g66 NELBB.out).trans L_27.out); have P_28 := Aside0.mk ((hst_ g9 NEPBB.out).trans P_27.out); have BD_28 := Aside0.mk ((hst_ g10 NEBDBB.out).trans BD_27.out); have BM_28 := Aside0.mk ((hst_ g12 NEBMBB.out).trans BM_27.out); have BF_28 := Aside0.mk ((hst_ g14 NEBFBB.out).trans BF_27.out); have BX_28 := Aside0.mk ((hst_ g16 NEBXBB.out).trans BX_27.out); have BB_28 := Aside0.mk (hm_); clear R0_27 R1_27 R2_27 R3_27 L_27 P_27 BD_27 BM_27 BF_27 BX_27 BB_27 hm_ hst_ hbl_; have cP0 := (blk_cell P_28.out 0).trans rfl; have cP1 := (blk_cell P_28.out 1).trans rfl; have cBD0 := (blk_cell BD_28.out 0).trans rfl; have cBD1 := (blk_cell BD_28.out 1).trans rfl; have cBM0 := (blk_cell BM_28.out 0).trans rfl; have cBM1 := (blk_cell BM_28.out 1).trans rfl; have cBF0 := (blk_cell BF_28.out 0).trans rfl; have cBF1 := (blk_cell BF_28.out 1).trans rfl; have cBX0 := (blk_cell BX_28.out 0).trans rfl; have cBX1 := (blk_cell BX_28.out 1).trans rfl; have cBB0 := (blk_cell BB_28.out 0).trans rfl; have cBB1 := (blk_cell BB_28.out 1).trans rfl) | (go_at_call 31; (with_reducible refine (at4 D_28.out.pc (outs4 _) 0 0 rfl (by decide) 1073741824 v_D0).mono ?_); rintro e w29 ⟨rfl, hb⟩; clear cP0 cP1 cBD0 cBD1 cBM0 cBM1 cBF0 cBF1 cBX0 cBX1 cBB0 cBB1; have B_29 := Aside0.mk (below_step B_28.out hb); have R0_29 := Aside0.mk (blk_below R0_28.out hb); have R1_29 := Aside0.mk (blk_below R1_28.out hb); have R2_29 := Aside0.mk (blk_below R2_28.out hb); have R3_29 := Aside0.mk (blk_below R3_28.out hb); have L_29 := Aside0.mk (blk_below L_28.out hb); have P_29 := Aside0.mk (blk_below P_28.out hb); have BD_29 := Aside0.mk (blk_below BD_28.out hb); have BM_29 := Aside0.mk (blk_below BM_28.out hb); have BF_29 := Aside0.mk (blk_below BF_28.out hb); have BX_29 := Aside0.mk (blk_below BX_28.out hb); have BB_29 := Aside0.mk (blk_below BB_28.out hb); clear R0_28 R1_28 R2_28 R3_28 L_28 P_28 BD_28 BM_28 BF_28 BX_28 BB_28; have D_29 := Aside0.mk (Pf.below D_28.out hb); have Mu_29 := Aside0.mk (Pf.below Mu_28.out hb); have Fa_29 := Aside0.mk (Pf.below Fa_28.out hb); have X_29 := Aside0.mk (Pf.below X_28.out hb); have Bt_29 := Aside0.mk (Pf.below Bt_28.out hb); clear D_28 Mu_28 Fa_28 X_28 Bt_28; have cP0 := (blk_cell P_29.out 0).trans rfl; have cP1 := (blk_cell P_29.out 1).trans rfl; have cBD0 := (blk_cell BD_29.out 0).trans rfl; have cBD1 := (blk_cell BD_29.out 1).trans rfl; have cBM0 := (blk_cell BM_29.out 0).trans rfl; have cBM1 := (blk_cell BM_29.out 1).trans rfl; have cBF0 := (blk_cell BF_29.out 0).trans rfl; have cBF1 := (blk_cell BF_29.out 1).trans rfl; have cBX0 := (blk_cell BX_29.out 0).trans rfl; have cBX1 := (blk_cell BX_29.out 1).trans rfl; have cBB0 := (blk_cell BB_29.out 0).trans rfl; have cBB1 := (blk_cell BB_29.out 1).trans rfl; clear hb) | (go_at_call 31; (with_reducible refine (at4 D_29.out.pc (outs4 _) 1 1 rfl (by decide) 2143289344 v_D1).mono ?_); rintro e w30 ⟨rfl, hb⟩; clear cP0 cP1 cBD0 cBD1 cBM0 cBM1 cBF0 cBF1 cBX0 cBX1 cBB0 cBB1; have B_30 := Aside0.mk (below_step B_29.out hb); have R0_30 := Aside0.mk (blk_below R0_29.out hb); have R1_30 := Aside0.mk (blk_below R1_29.out hb); have R2_30 := Aside0.mk (blk_below R2_29.out hb); have R3_30 := Aside0.mk (blk_below R3_29.out hb); have L_30 := Aside0.mk (blk_below L_29.out hb); have P_30 := Aside0.mk (blk_below P_29.out hb); have BD_30 := Aside0.mk (blk_below BD_29.out hb); have BM_30 := Aside0.mk (blk_below BM_29.out hb); have BF_30 := Aside0.mk (blk_below BF_29.out hb); have BX_30 := Aside0.mk (blk_below BX_29.out hb); have BB_30 := Aside0.mk (blk_below BB_29.out hb); clear R0_29 R1_29 R2_29 R3_29 L_29 P_29 BD_29 BM_29 BF_29 BX_29 BB_29; have D_30 := Aside0.mk (Pf.below D_29.out hb); have Mu_30 := Aside0.mk (Pf.below Mu_29.out hb); have Fa_30 := Aside0.mk (Pf.below Fa_29.out hb); have X_30 := Aside0.mk (Pf.below X_29.out hb); have Bt_30 := Aside0.mk (Pf.below Bt_29.out hb); clear D_29 Mu_29 Fa_29 X_29 Bt_29; have cP0 := (blk_cell P_30.out 0).trans rfl; have cP1 := (blk_cell P_30.out 1).trans rfl; have cBD0 := (blk_cell BD_30.out 0).trans rfl; have cBD1 := (blk_cell BD_30.out 1).trans rfl; have cBM0 := (blk_cell BM_30.out 0).trans rfl; have cBM1 := (blk_cell BM_30.out 1).trans rfl; have cBF0 := (blk_cell BF_30.out 0).trans rfl; have cBF1 := (blk_cell BF_30.out 1).trans rfl; have cBX0 := (blk_cell BX_30.out 0).trans rfl; have cBX1 := (blk_cell BX_30.out 1).trans rfl; have cBB0 := (blk_cell BB_30.out 0).trans rfl; have cBB1 := (blk_cell BB_30.out 1).trans rfl; clear hb) | (go_at_call 31; (with_reducible refine (at4 Mu_30.out.pc (outs4 _) 0 0 rfl (by decide) 1040187392 v_Mu0).mono ?_); rintro e w31 ⟨rfl, hb⟩; clear cP0 cP1 cBD0 cBD1 cBM0 cBM1 cBF0 cBF1 cBX0 cBX1 cBB0 cBB1; have B_31 := Aside0.mk (below_step B_30.out hb); have R0_31 := Aside0.mk (blk_below R0_30.out hb); have R1_31 := Aside0.mk (blk_below R1_30.out hb); have R2_31 := Aside0.mk (blk_below R2_30.out hb); have R3_31 := Aside0.mk (blk_below R3_30.out hb); have L_31 := Aside0.mk (blk_below L_30.out hb); have P_31 := Aside0.mk (blk_below P_30.out hb); have BD_31 := Aside0.mk (blk_below BD_30.out hb); have BM_31 := Aside0.mk (blk_below BM_30.out hb); have BF_31 := Aside0.mk (blk_below BF_30.out hb); have BX_31 := Aside0.mk (blk_below BX_30.out hb); have BB_31 := Aside0.mk (blk_below BB_30.out hb); clear R0_30 R1_30 R2_30 R3_30 L_30 P_30 BD_30 BM_30 BF_30 BX_30 BB_30; have D_31 := Aside0.mk (Pf.below D_30.out hb); have Mu_31 := Aside0.mk (Pf.below Mu_30.out hb); have Fa_31 := Aside0.mk (Pf.below Fa_30.out hb); have X_31 := Aside0.mk (Pf.below X_30.out hb); have Bt_31 := Aside0.mk (Pf.below Bt_30.out hb); clear D_30 Mu_30 Fa_30 X_30 Bt_30; have cP0 := (blk_cell P_31.out 0).trans rfl; have cP1 := (blk_cell P_31.out 1).trans rfl; have cBD0 := (blk_cell BD_31.out 0).trans rfl; have cBD1 := (blk_cell BD_31.out 1).trans rfl; have cBM0 := (blk_cell BM_31.out 0).trans rfl; have cBM1 := (blk_cell BM_31.out 1).trans rfl; have cBF0 := (blk_cell BF_31.out 0).trans rfl; have cBF1 := (blk_cell BF_31.out 1).trans rfl; have cBX0 := (blk_cell BX_31.out 0).trans rfl; have cBX1 := (blk_cell BX_31.out 1).trans rfl; have cBB0 := (blk_cell BB_31.out 0).trans rfl; have cBB1 := (blk_cell BB_31.out 1).trans rfl; clear hb) | (go_at_call 31; (with_reducible refine (at4 Mu_31.out.pc (outs4 _) 3 3 rfl (by decide) 1048576000 v_Mu3).mono ?_); rintro e w32 ⟨rfl, hb⟩; clear cP0 cP1 cBD0 cBD1 cBM0 cBM1 cBF0 cBF1 cBX0 cBX1 cBB0 cBB1; have B_32 := Aside0.mk (below_step B_31.out hb); have R0_32 := Aside0.mk (blk_below R0_31.out hb); have R1_32 := Aside0.mk (blk_below R1_31.out hb); have R2_32 := Aside0.mk (blk_below R2_31.out hb); have R3_32 := Aside0.mk (blk_below R3_31.out hb); have L_32 := Aside0.mk (blk_below L_31.out hb); have P_32 := Aside0.mk (blk_below P_31.out hb); have BD_32 := Aside0.mk (blk_below BD_31.out hb); have BM_32 := Aside0.mk (blk_below BM_31.out hb); have BF_32 := Aside0.mk (blk_below BF_31.out hb); have BX_32 := Aside0.mk (blk_below BX_31.out hb); have BB_32 := Aside0.mk (blk_below BB_31.out hb); clear R0_31 R1_31 R2_31 R3_31 L_31 P_31 BD_31 BM_31 BF_31 BX_31 BB_31; have D_32 := Aside0.mk (Pf.below D_31.out hb); have Mu_32 := Aside0.mk (Pf.below Mu_31.out hb); have Fa_32 := Aside0.mk (Pf.below Fa_31.out hb); have X_32 := Aside0.mk (Pf.below X_31.out hb); have Bt_32 := Aside0.mk (Pf.below Bt_31.out hb); clear D_31 Mu_31 Fa_31 X_31 Bt_31; have cP0 := (blk_cell P_32.out 0).trans rfl; have cP1 := (blk_cell P_32.out 1).trans rfl; have cBD0 := (blk_cell BD_32.out 0).trans rfl; have cBD1 := (blk_cell BD_32.out 1).trans rfl; have cBM0 := (blk_cell BM_32.out 0).trans rfl; have cBM1 := (blk_cell BM_32.out 1).trans rfl; have cBF0 := (blk_cell BF_32.out 0).trans rfl; have cBF1 := (blk_cell BF_32.out 1).trans rfl; have cBX0 := (blk_cell BX_32.out 0).trans rfl; have cBX1 := (blk_cell BX_32.out 1).trans rfl; have cBB0 := (blk_cell BB_32.out 0).trans rfl; have cBB1 := (blk_cell BB_32.out 1).trans rfl; clear hb) | (go_at_call 31; (with_reducible refine (at4 Fa_32.out.pc (outs4 _) 3 3 rfl (by decide) 1040187392 v_Fa3).mono ?_); rintro e w33 ⟨rfl, hb⟩; clear cP0 cP1 cBD0 cBD1 cBM0 cBM1 cBF0 cBF1 cBX0 cBX1 cBB0 cBB1; have B_33 := Aside0.mk (below_step B_32.out hb); have R0_33 := Aside0.mk (blk_below R0_32.out hb); have R1_33 := Aside0.mk (blk_below R1_32.out hb); have R2_33 := Aside0.mk (blk_below R2_32.out hb); have R3_33 := Aside0.mk (blk_below R3_32.out hb); have L_33 := Aside0.mk (blk_below L_32.out hb); have P_33 := Aside0.mk (blk_below P_32.out hb); have BD_33 := Aside0.mk (blk_below BD_32.out hb); have BM_33 := Aside0.mk (blk_below BM_32.out hb); have BF_33 := Aside0.mk (blk_below BF_32.out hb); have BX_33 := Aside0.mk (blk_below BX_32.out hb); have BB_33 := Aside0.mk (blk_below BB_32.out hb); clear R0_32 R1_32 R2_32 R3_32 L_32 P_32 BD_32 BM_32 BF_32 BX_32 BB_32; have D_33 := Aside0.mk (Pf.below D_32.out hb); have Mu_33 := Aside0.mk (Pf.below Mu_32.out hb); have Fa_33 := Aside0.mk (Pf.below Fa_32.out hb); have X_33 := Aside0.mk (Pf.below X_32.out hb); have Bt_33 := Aside0.mk (Pf.below Bt_32.out hb); clear D_32 Mu_32 Fa_32 X_32 Bt_32; have cP0 := (blk_cell P_33.out 0).trans rfl; have cP1 := (blk_cell P_33.out 1).trans rfl; have cBD0 := (blk_cell BD_33.out 0).trans rfl; have cBD1 := (blk_cell BD_33.out 1).trans rfl; have cBM0 := (blk_cell BM_33.out 0).trans rfl; have cBM1 := (blk_cell BM_33.out 1).trans rfl; have cBF0 := (blk_cell BF_33.out 0).trans rfl; have cBF1 := (blk_cell BF_33.out 1).trans rfl; have cBX0 := (blk_cell BX_33.out 0).trans rfl; have cBX1 := (blk_cell BX_33.out 1).trans rfl; have cBB0 := (blk_cell BB_33.out 0).trans rfl; have cBB1 := (blk_cell BB_33.out 1).trans rfl; clear hb) | (go_at_call 31; (with_reducible refine (at4 X_33.out.pc (outs4 _) 0 0 rfl (by decide) 1063256064 v_X0).mono ?_); rintro e w34 ⟨rfl, hb⟩; clear cP0 cP1 cBD0 cBD1 cBM0 cBM1 cBF0 cBF1 cBX0 cBX1 cBB0 cBB1; have B_34 := Aside0.mk (below_step B_33.out hb); have R0_34 := Aside0.mk (blk_below R0_33.out hb); have R1_34 := Aside0.mk (blk_below R1_33.out hb); have R2_34 := Aside0.mk (blk_below R2_33.out hb); have R3_34 := Aside0.mk (blk_below R3_33.out hb); have L_34 := Aside0.mk (blk_below L_33.out hb); have P_34 := Aside0.mk (blk_below P_33.out hb); have BD_34 := Aside0.mk (blk_below BD_33.out hb); have BM_34 := Aside0.mk (blk_below BM_33.out hb); have BF_34 := Aside0.mk (blk_below BF_33.out hb); have BX_34 := Aside0.mk (blk_below BX_33.out hb); have BB_34 := Aside0.mk (blk_below BB_33.out hb); clear R0_33 R1_33 R2_33 R3_33 L_33 P_33 BD_33 BM_33 BF_33 BX_33 BB_33; have D_34 := Aside0.mk (Pf.below D_33.out hb); have Mu_34 := Aside0.mk (Pf.below Mu_33.out hb); have Fa_34 := Aside0.mk (Pf.below Fa_33.out hb); have X_34 := Aside0.mk (Pf.below X_33.out hb); have Bt_34 := Aside0.mk (Pf.below Bt_33.out hb); clear D_33 Mu_33 Fa_33 X_33 Bt_33; have cP0 := (blk_cell P_34.out 0).trans rfl; have cP1 := (blk_cell P_34.out 1).trans rfl; have cBD0 := (blk_cell BD_34.out 0).trans rfl; have cBD1 := (blk_cell BD_34.out 1).trans rfl; have cBM0 := (blk_cell BM_34.out 0).trans rfl; have cBM1 := (blk_cell BM_34.out 1).trans rfl; have cBF0 := (blk_cell BF_34.out 0).trans rfl; have cBF1 := (blk_cell BF_34.out 1).trans rfl; have cBX0 := (blk_cell BX_34.out 0).trans rfl; have cBX1 := (blk_cell BX_34.out 1).trans rfl; have cBB0 := (blk_cell BB_34.out 0).trans rfl; have cBB1 := (blk_cell BB_34.out 1).trans rfl; clear hb) | (go_at_call 31; (with_reducible refine (at4 Bt_34.out.pc (outs4 _) 0 0 rfl (by decide) 1056964608 v_Bt0).mono ?_); rintro e w35 ⟨rfl, hb⟩; clear cP0 cP1 cBD0 cBD1 cBM0 cBM1 cBF0 cBF1 cBX0 cBX1 cBB0 cBB1; have B_35 := Aside0.mk (below_step B_34.out hb); have R0_35 := Aside0.mk (blk_below R0_34.out hb); have R1_35 := Aside0.mk (blk_below R1_34.out hb); have R2_35 := Aside0.mk (blk_below R2_34.out hb); have R3_35 := Aside0.mk (blk_below R3_34.out hb); have L_35 := Aside0.mk (blk_below L_34.out hb); have P_35 := Aside0.mk (blk_below P_34.out hb); have BD_35 := Aside0.mk (blk_below BD_34.out hb); have BM_35 := Aside0.mk (blk_below BM_34.out hb); have BF_35 := Aside0.mk (blk_below BF_34.out hb); have BX_35 := Aside0.mk (blk_below BX_34.out hb); have BB_35 := Aside0.mk (blk_below BB_34.out hb); clear R0_34 R1_34 R2_34 R3_34 L_34 P_34 BD_34 BM_34 BF_34 BX_34 BB_34; have D_35 := Aside0.mk (Pf.below D_34.out hb); have Mu_35 := Aside0.mk (Pf.below Mu_34.out hb); have Fa_35 := Aside0.mk (Pf.below Fa_34.out hb); have X_35 := Aside0.mk (Pf.below X_34.out hb); have Bt_35 := Aside0.mk (Pf.below Bt_34.out hb); clear D_34 Mu_34 Fa_34 X_34 Bt_34; have cP0 := (blk_cell P_35.out 0).trans rfl; have cP1 := (blk_cell P_35.out 1).trans rfl; have cBD0 := (blk_cell BD_35.out 0).trans rfl; have cBD1 := (blk_cell BD_35.out 1).trans rfl; have cBM0 := (blk_cell BM_35.out 0).trans rfl; have cBM1 := (blk_cell BM_35.out 1).trans rfl; have cBF0 := (blk_cell BF_35.out 0).trans rfl; have cBF1 := (blk_cell BF_35.out 1).trans rfl; have cBX0 := (blk_cell BX_35.out 0).trans rfl; have cBX1 := (blk_cell BX_35.out 1).trans rfl; have cBB0 := (blk_cell BB_35.out 0).trans rfl; have cBB1 := (blk_cell BB_35.out 1).trans rfl; clear hb))
 go_ret
 exact ⟨rfl, B_35.out⟩
end Go.Proofs.Ytjlciehcddanpaa.A
end
