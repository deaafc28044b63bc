import Derived.Test.YtodlgdpkadkjjaaS1
import Derived.Laws.Externs
import Derived.Laws.FloatArith
import Derived.LoopIn
import Derived.LoopNIn
import Derived.OwnWalkIn
import Derived.RangeFuncBound
import Derived.RangeFuncCalls
import Derived.RangeFuncLeaves
import Derived.RangeFuncNested
import Derived.Shelf.Abstract
import Derived.Shelf.RegionOpen
import Derived.TacticsInMore
section
set_option linter.unusedVariables false
set_option linter.unusedSimpArgs false
namespace Go.Proofs.Ytodlgdpkadkjjaa.A
open Go.RowKit Go.Proofs.YtodlgdpkadkjjaaW.PrintWords Go.Proofs.YtodlgdpkadkjjaaW.PrintLast Go.Proofs.YtodlgdpkadkjjaaW.PrintMore Go.Proofs.Ytodlgdpkadkjjaa.PPyramidLevels

theorem wraps_u32 (n : Int) (h₀ : 0 ≤ n) (h₁ : n < 2 ^ 32) : IntKind.u32.wrap n = n := by rw [IntKind.wrap_u32]; omega
theorem u32_and255 {x : Int} (h₀ : 0 ≤ x) (h₁ : x < 4294967296) : bits .and .u32 x 255 = x % 256 := bits_mask .u32 32 (by decide) wraps_u32 8 (by decide) x h₀ h₁
theorem u32_and23 {x : Int} (h₀ : 0 ≤ x) (h₁ : x < 4294967296) : bits .and .u32 x 8388607 = x % 8388608 := bits_mask .u32 32 (by decide) wraps_u32 23 (by decide) x h₀ h₁
theorem w64 {n : Int} (h1 : -9223372036854775808 ≤ n) (h2 : n < 9223372036854775808) : wrap64 n = n := by
 simp only [wrap64, IntKind.wrap_i64]; omega
/-- what bits.Made tells -/
def mk (s : Nat) : Nat := if isnan s = true then made else s
theorem Class_f (s : Nat) (h : s < 4294967296) : ∃ r : Int, bits_Class.f (s : Int) = some r ∧ (r == 1) = isnan s := by
 have e1 : bits_split.f (s : Int) = some (decide ((s : Int) ≥ 2147483648), (s : Int) / 8388608 % 256, (s : Int) % 8388608) := by
  unfold bits_split.f
  rw [u32_and255 (by omega) (by omega), u32_and23 (by omega) (by omega), w64 (by omega) (by omega), w64 (by omega) (by omega)]
 unfold bits_Class.f
 rw [e1]
 simp only [Option.bind_some]
 unfold isnan
 have a1 : ((s : Int) / 8388608 % 256 = 255) ↔ (s / 2 ^ 23 % 256 = 255) := by
  rw [show (2 : Nat) ^ 23 = 8388608 by decide]; omega
 have a2 : ((s : Int) % 8388608 = 0) ↔ (s % 2 ^ 23 = 0) := by
  rw [show (2 : Nat) ^ 23 = 8388608 by decide]; omega
 by_cases c1 : s / 2 ^ 23 % 256 = 255
 ·have b1 := a1.mpr c1
  have c0 : ((s : Int) / 8388608 % 256 == 0) = false := by rw [b1]; decide
  have c5 : ((s : Int) / 8388608 % 256 == 255) = true := by rw [b1]; decide
  rw [c0, c5]
  simp only [Bool.false_and, Bool.true_and, Bool.false_eq_true, if_false, b1, if_true]
  by_cases c2 : s % 2 ^ 23 = 0
  ·have b2 := a2.mpr c2
   rw [b2]
   exact ⟨2, by simp, by simp [c2]⟩
  ·have b2 : ((s : Int) % 8388608 == 0) = false := by rw [beq_eq_false_iff_ne]; intro h; exact c2 (a2.mp h)
   rw [b2]
   exact ⟨1, by simp, by simp [c1, c2]⟩
 ·have b1 : ¬ ((s : Int) / 8388608 % 256 = 255) := fun h => c1 (a1.mp h)
  have c5 : ((s : Int) / 8388608 % 256 == 255) = false := by rw [beq_eq_false_iff_ne]; exact b1
  rw [c5]
  simp only [Bool.false_and, Bool.false_eq_true, if_false, b1]
  have e : (decide (s / 2 ^ 23 % 256 = 255) && decide (s % 2 ^ 23 ≠ 0)) = false := by rw [decide_eq_false c1]; rfl
  rw [e]
  split
  ·exact ⟨5, rfl, rfl⟩
  ·split
   ·exact ⟨4, rfl, rfl⟩
   ·exact ⟨3, rfl, rfl⟩
theorem Made_f (s : Nat) (h : s < 4294967296) : bits_Made.f (s : Int) = some ((mk s : Nat) : Int) := by
 obtain ⟨r, e1, e2⟩ := Class_f s h
 have e3 : bits_IsNaN.f (s : Int) = some (isnan s) := by
  unfold bits_IsNaN.f
  rw [e1, ← e2]
  rfl
 unfold bits_Made.f mk
 rw [e3]
 simp only [Option.bind_some]
 split <;> rfl
theorem Made_calls (s : Nat) (w : World) (h : s < 4294967296) : Calls Try.prog 78 #[.int .u32 (s : Int)] w fun e w' => e = .returned (.int .u32 ((mk s : Nat) : Int)) ∧ Below w.heap.size w w' :=
 bits_Made.calls (s : Int) _ w (Made_f s h)
/-- the two functions of the library that the model stands in for -/
theorem run_from (s : Nat) (w : World) : (callFunc 63 #[.int .u32 (s : Int)]).run Try.prog w = .ok (.value (.float .f32 s)) w := by
 rw [run_callFunc_extern Try.func63 (by kernel_rfl) (by kernel_rfl) (by kernel_rfl) (e := Extern.MathFloatBits.float32frombits) (by kernel_rfl)]
 rfl
theorem run_bits (s : Nat) (w : World) : (callFunc 79 #[.float .f32 s]).run Try.prog w = .ok (.value (.int .u32 (s : Int))) w := by
 rw [run_callFunc_extern Try.func79 (by kernel_rfl) (by kernel_rfl) (by kernel_rfl) (e := Extern.MathFloatBits.float32bits) (by kernel_rfl)]
 rfl
/-- a double's word: of a number or an infinity that very one, of a NaN any -/
def Dv (v : Nat) (o : Option Nat) : Prop := match o with
 | some x => v = x
 | none => ∃ a t, Ieee.double.read v = .nan a t
theorem nan_d (t : Nat) : ∃ a f, Ieee.double.read ((t % 2) * 2 ^ 63 + 0x7ff0000000000000 + 1 + (t / 2) % (2 ^ 52 - 1)) = .nan a f := by
 obtain ⟨x, hx⟩ : ∃ x, (t / 2) % (2 ^ 52 - 1) = x := ⟨_, rfl⟩
 have hlt : x < 2 ^ 52 - 1 := by rw [← hx]; exact Nat.mod_lt _ (by decide)
 rw [hx]
 have h1 : Ieee.double.infRung < 0x7ff0000000000000 + 1 + x := by
  have : Ieee.double.infRung = 0x7ff0000000000000 := by decide
  omega
 have h2 : 0x7ff0000000000000 + 1 + x < Ieee.double.signWeight := by
  have : Ieee.double.signWeight = 2 ^ 63 := by decide
  rw [this]
  have h3 : x < 4503599627370495 := hlt
  omega
 have h3 : (t % 2) * 2 ^ 63 + 0x7ff0000000000000 + 1 + x = Ieee.double.word (t % 2 == 1) (0x7ff0000000000000 + 1 + x) := by
  unfold Ieee.Format.word
  have : Ieee.double.signWeight = 2 ^ 63 := by decide
  rw [this]
  rcases Nat.mod_two_eq_zero_or_one t with h | h
  ·rw [h]; simp
  ·rw [h]; simp; omega
 rw [h3]
 exact ⟨_, _, read_nan Ieee.double bi_d _ h1 h2⟩
theorem nan_s (t : Nat) : isnan ((t % 2) * 2 ^ 31 + 0x7f800000 + 1 + (t / 2) % (2 ^ 23 - 1)) = true ∧ (t % 2) * 2 ^ 31 + 0x7f800000 + 1 + (t / 2) % (2 ^ 23 - 1) < 4294967296 := by
 obtain ⟨x, hx⟩ : ∃ x, (t / 2) % (2 ^ 23 - 1) = x := ⟨_, rfl⟩
 have hlt : x < 2 ^ 23 - 1 := by rw [← hx]; exact Nat.mod_lt _ (by decide)
 have h31 : (2 : Nat) ^ 31 = 2147483648 := by decide
 have h23 : (2 : Nat) ^ 23 = 8388608 := by decide
 rw [h23] at hlt
 rw [hx]
 unfold isnan
 rw [h31, h23]
 simp only [Bool.and_eq_true, decide_eq_true_eq]
 rcases Nat.mod_two_eq_zero_or_one t with h | h
 ·rw [h]; omega
 ·rw [h]; omega
end Go.Proofs.Ytodlgdpkadkjjaa.A
end
section
set_option linter.unusedVariables false
set_option linter.unusedSimpArgs false
namespace Go.Proofs.Ytodlgdpkadkjjaa.A
open Go.RowKit Go.Proofs.YtodlgdpkadkjjaaW.PrintWords Go.Proofs.YtodlgdpkadkjjaaW.PrintLast Go.Proofs.YtodlgdpkadkjjaaW.PrintMore Go.Proofs.Ytodlgdpkadkjjaa.PPyramidLevels

/-- a way of reckoning that a NaN goes through -/
theorem nan_left (op : BinOp) (x y : Nat) (a : Bool) (f : Nat) (h : Ieee.double.read x = .nan a f) : floatBits op .f64 x y = none := by
 cases op <;> first
  | rfl
  | (change Ieee.double.add x y = none; unfold Ieee.Format.add; rw [h]; rfl)
  | (change Ieee.double.sub x y = none; unfold Ieee.Format.sub; rw [h]; rfl)
  | (change Ieee.double.mul x y = none; unfold Ieee.Format.mul; rw [h]; rfl)
  | (change Ieee.double.div x y = none; unfold Ieee.Format.div; rw [h]; rfl)
theorem nan_right (op : BinOp) (x y : Nat) (a : Bool) (f : Nat) (h : Ieee.double.read y = .nan a f) : floatBits op .f64 x y = none := by
 cases op <;> first
  | rfl
  | (change Ieee.double.add x y = none; unfold Ieee.Format.add; rw [h]; cases Ieee.double.read x <;> rfl)
  | (change Ieee.double.sub x y = none; unfold Ieee.Format.sub; rw [h]; cases Ieee.double.read x <;> rfl)
  | (change Ieee.double.mul x y = none; unfold Ieee.Format.mul; rw [h]; cases Ieee.double.read x <;> rfl)
  | (change Ieee.double.div x y = none; unfold Ieee.Format.div; rw [h]; cases Ieee.double.read x <;> rfl)
theorem Dv_op (op : BinOp) {v1 v2 : Nat} {o1 o2 : Option Nat} (h1 : Dv v1 o1) (h2 : Dv v2 o2) : floatBits op .f64 v1 v2 = o1.bind fun x => o2.bind fun y => floatBits op .f64 x y := by
 cases o1 with
 | none =>
  obtain ⟨a, f, h⟩ := h1
  rw [nan_left op v1 v2 a f h]; rfl
 | some x =>
  obtain rfl : v1 = x := h1
  cases o2 with
  | none =>
   obtain ⟨a, f, h⟩ := h2
   rw [nan_right op v1 v2 a f h]; rfl
  | some y =>
   obtain rfl : v2 = y := h2
   rfl
theorem step_op (op : BinOp) (hop : op = .add ∨ op = .mul ∨ op = .quo) (t : TypeId) {v1 v2 : Nat} {o1 o2 : Option Nat} (h1 : Dv v1 o1) (h2 : Dv v2 o2) (w : World) :
    ∃ v m, (binOp op t (.float .f64 v1) (.float .f64 v2)).run Try.prog w = .ok (.float .f64 v) (w.drewN m) ∧ Dv v (o1.bind fun x => o2.bind fun y => floatBits op .f64 x y) := by
 rw [← Dv_op op h1 h2]
 cases hb : floatBits op .f64 v1 v2 with
 | some r => exact ⟨r, 0, run_float_arith w op t .f64 v1 v2 r hb, rfl⟩
 | none =>
  refine ⟨_, 1, ?_, nan_d (w.tape w.drawn (.nanBits .f64 v1 v2))⟩
  unfold floatBits at hb
  rcases hop with rfl | rfl | rfl
  ·simp only at hb
   simp [binOp, Op.floatArith, hb, Question.forced, Question.cut, World.drew_is_drewN]
  ·simp only at hb
   simp [binOp, Op.floatArith, hb, Question.forced, Question.cut, World.drew_is_drewN]
  ·simp only at hb
   simp [binOp, Op.floatArith, hb, Question.forced, Question.cut, World.drew_is_drewN]
theorem step_wv (s : Nat) (hs : s < 4294967296) (w : World) :
    ∃ v m, (convert 101 57 (.float .f32 s)).run Try.prog w = .ok (.float .f64 v) (w.drewN m) ∧ Dv v (wv s) := by
 cases hb : wv s with
 | some r => exact ⟨r, 0, run_convert_float_float w 101 57 .f32 .f64 s r (by rw [Try.underlying101]; rfl) Try.underlying57 hb, rfl⟩
 | none =>
  refine ⟨_, 1, ?_, nan_d (w.tape w.drawn (.nanConv .f64 s))⟩
  obtain ⟨a, r, hr, rfl⟩ := word_of Ieee.single (x := s) hs
  have h : Ieee.single.infRung < r := by
   rcases Nat.lt_trichotomy r Ieee.single.infRung with h | h | h
   ·unfold wv at hb; rw [(cvt_fin a h).1] at hb; cases hb
   ·subst h; unfold wv at hb; rw [cvt_inf] at hb; cases hb
   ·exact h
  have e : FloatKind.decode .f32 (Ieee.single.word a r) = .nan a (r - Ieee.single.infRung) := read_nan Ieee.single bi_s a h hr
  simp [convert, run_underlying Try.underlying101, run_underlying Try.underlying57, Conv.floatToFloat, e, Question.forced, Question.cut, World.drew_is_drewN]
theorem step_back {v : Nat} {o : Option Nat} (h : Dv v o) (ho : ∀ q, o = some q → ∃ r, floatToFloatBits .f64 q .f32 = some r) (w : World) :
    ∃ u m, (convert 57 101 (.float .f64 v)).run Try.prog w = .ok (.float .f32 u) (w.drewN m) ∧ (o = none → isnan u = true ∧ u < 4294967296) ∧ (∀ q, o = some q → floatToFloatBits .f64 q .f32 = some u) := by
 cases o with
 | some q =>
  obtain rfl : v = q := h
  obtain ⟨r, hr⟩ := ho v rfl
  exact ⟨r, 0, run_convert_float_float w 57 101 .f64 .f32 v r (by rw [Try.underlying57]; rfl) Try.underlying101 hr, (fun e => by cases e), fun q e => by cases e; exact hr⟩
 | none =>
  obtain ⟨a, t, h⟩ := h
  refine ⟨_, 1, ?_, fun _ => nan_s (w.tape w.drawn (.nanConv .f32 v)), fun q e => by cases e⟩
  have e : FloatKind.decode .f64 v = .nan a t := h
  simp [convert, run_underlying Try.underlying101, run_underlying Try.underlying57, Conv.floatToFloat, e, Question.forced, Question.cut, World.drew_is_drewN]
end Go.Proofs.Ytodlgdpkadkjjaa.A
end
section
set_option linter.unusedVariables false
set_option linter.unusedSimpArgs false
namespace Go.Proofs.Ytodlgdpkadkjjaa.A
open Go.RowKit Go.Proofs.YtodlgdpkadkjjaaW.PrintWords Go.Proofs.YtodlgdpkadkjjaaW.PrintLast Go.Proofs.YtodlgdpkadkjjaaW.PrintMore Go.Proofs.Ytodlgdpkadkjjaa.PPyramidLevels

section
variable {P : Program} {ops : Array Oper} {Q : Exit → Act → World → Prop}
/-- an operation's walk, within a round of a range over a function -/
theorem opIn_of (l n : Nat) {o : Oper} {a : Act} {w : World} {K : Act → World → Prop} (hd : ∀ c, o.op ≠ .defer c) (h : o.wp P a w K Q) : o.wpIn (Fence.wide.inRound l) n P a w K Q := by
 unfold Oper.wpIn
 refine ⟨fun _ _ => trivial, ?_⟩
 unfold Oper.wp at h
 rw [Oper.semAt_eq _ _ _ hd]
 generalize (execOp a.eval o).run P w = r at *
 cases r with
 | ok x w' =>
  cases x with
  | value v => exact h
  | skip => exact h
  | defer d => exact h
  | enter f args => exact ⟨(fun h9 => by cases h9), CallsIn.inRound l (callsIn_wide.2 h)⟩
  | row row args =>
   refine ⟨(fun h9 => by cases h9), ?_⟩
   intro c cs _
   obtain ⟨v, w2, h1, h2⟩ := h c cs
   exact ⟨v, w2, h1, stepsIn_wide.2 h2⟩
  | _ => exact h.elim
 | halt x w' => cases x <;> exact h
theorem wpOpIn_of (l n : Nat) (hd : ∀ (i : Nat) (o : Oper), ops[i]? = some o → ∀ c, o.op ≠ .defer c) (hL : ¬ LetsOut Q) {i : Nat} {a : Act} {w : World} {K : Act → World → Prop} (h : wpOp P ops Q i K a w) : wpOpIn (Fence.wide.inRound l) n P ops Q i K a w := by
 unfold wpOp at h
 unfold wpOpIn
 cases ho : ops[i]? with
 | none => rw [ho] at h; exact h
 | some o =>
  rw [ho] at h
  simp only at h ⊢
  split
  ·rename_i hw
   rw [if_pos hw] at h
   rcases h with h | h
   ·exact opIn_of l n (hd i o ho) h
   ·exact absurd h.2 hL
  ·rename_i hw
   rw [if_neg hw] at h
   exact ⟨fun _ _ => trivial, h⟩
theorem anyIn_of (l n : Nat) (md : Region.Mode) (hd : ∀ (i : Nat) (o : Oper), ops[i]? = some o → ∀ c, o.op ≠ .defer c) (hL : ¬ LetsOut Q) : ∀ (fuel : Nat) (listed : Array Bool) (a : Act) (w : World), wpAny P md ops Q fuel listed a w → wpAnyIn (Fence.wide.inRound l) n P md ops Q fuel listed a w
 | 0, _, _, _, h => h
 | fuel + 1, _, _, _, h => ⟨h.1, fun i hi => wpOpIn_of l n hd hL (wpOp_mono (fun a' w' h' => anyIn_of l n md hd hL fuel _ a' w' h') (h.2 i hi))⟩
/-- a region that draws its order, within a round -/
theorem start_in {S : World → Prop} {ds : List Nat} {id n lp k : Nat} {a : Act} {w : World} (l : Array Bool) (hm : P.follows .mixedOrders = true) (hn : ops.size = n) (hl : Array.replicate n false = l) (hS : S w.drew)
    (hd : (ops.all fun o => match o.op with | .defer _ => false | _ => true) = true) (hL : ¬ LetsOut Q)
    (h : S w.drew → wpAnyLast P .any ops Q S ds n l a w.drew) : (Code.region id ops true).wpIn (Fence.wide.inRound lp) k P Q a w := by
 subst hn
 subst hl
 refine wpIn_region_any hm (anyIn_of lp k .any ?_ hL _ _ _ _ (wpAny_of_last _ _ _ _ (h hS)))
 intro i o ho c hc
 have h1 := Array.all_eq_true.mp hd i (Array.getElem?_eq_some_iff.1 ho).1
 rw [(Array.getElem?_eq_some_iff.1 ho).2, hc] at h1
 cases h1
end
end Go.Proofs.Ytodlgdpkadkjjaa.A
end
section
set_option linter.unusedVariables false
set_option linter.unusedSimpArgs false
namespace Go.Proofs.Ytodlgdpkadkjjaa.A
open Go.RowKit Go.Shelf Go.Proofs.YtodlgdpkadkjjaaW.PrintWords Go.Proofs.YtodlgdpkadkjjaaW.PrintLast Go.Proofs.YtodlgdpkadkjjaaW.PrintMore Go.Proofs.Ytodlgdpkadkjjaa.PPyramidLevels
attribute [local go_sem] max2_int min2_int max_two min_two

set_option maxHeartbeats 1000000 in
theorem taps_calls (A : Option Addr) (k c : Nat) (fr n : Int) (w : World) :
    Calls Try.prog 73 #[.slice A k c, .int .i64 fr, .int .i64 n] w fun e w' =>
     e = .returned (.func (.func 80) #[] #[.pointer (some ⟨w.heap.size, 0, none⟩), .pointer (some ⟨w.heap.size + 1, 0, none⟩), .pointer (some ⟨w.heap.size + 1 + 1, 0, none⟩)]) ∧
     w' = ((w.alloc (.cells #[.slice A k c] 31)).alloc (.cells #[.int .i64 fr] 3)).alloc (.cells #[.int .i64 n] 3) := by
 go_enter Try.func73, Try.ntmps73
 go_wp2
 go_ret
 exact ⟨rfl, rfl⟩
/-- a place within a row of n -/
def cl (z n : Int) : Int := if (if z < 0 then 0 else z) < n - 1 then (if z < 0 then 0 else z) else n - 1
/-- what a tap is -/
def tapV (ws : List Int) (fr n : Int) (j : Nat) : Value := .agg #[.int .i64 (ws[j]?.getD 0), .int .i64 (cl (fr + j) n)]
/-- the value that taps tells: its three boxes, its weights -/
def It (W : World) (lb : Array Value) (ws : List Int) (fr n : Int) : Prop := ∃ b1 b2 b3 g c, lb = #[.pointer (some ⟨b1, 0, none⟩), .pointer (some ⟨b2, 0, none⟩), .pointer (some ⟨b3, 0, none⟩)] ∧ (b1 < W.heap.size ∧ b2 < W.heap.size ∧ b3 < W.heap.size ∧ g < W.heap.size) ∧
 W.cell? ⟨b1, 0, none⟩ = some (.slice (some ⟨g, 0, none⟩) ws.length c) ∧ W.cell? ⟨b2, 0, none⟩ = some (.int .i64 fr) ∧ W.cell? ⟨b3, 0, none⟩ = some (.int .i64 n) ∧ ∀ j, j < ws.length → W.cell? ⟨g, j, none⟩ = some (.int .i64 (ws[j]?.getD 0))
attribute [local go_sem] Oper.semAt_some
set_option maxRecDepth 100000 in
set_option maxHeartbeats 4000000 in
theorem tap1_in (F : Fence) (n : Nat) (h80 : F.fn 80) (hro : F.round = none) (hn : 1 ≤ n) (l n₀ b1 b2 b3 g cp : Nat) (ws : List Int) (fr m : Int) (hlen : ws.length < 1000) (hfr : -1000000 ≤ fr ∧ fr < 1000000) (hm : 1 ≤ m ∧ m < 1000000)
    (hb : b1 < n₀ ∧ b2 < n₀ ∧ b3 < n₀ ∧ g < n₀) (J Jx : List Nat → World → Prop)
    (hY : ∀ pre x W, J pre W → pre.length < ws.length → YieldAt F (n - 1) Try.prog l #[tapV ws fr m x] W fun e W' =>
     (e = .returned (.bool true) ∧ J (pre ++ [x]) W' ∧ Below n₀ W W') ∨ (e = .returned (.bool false) ∧ Jx (pre ++ [x]) W'))
    (W : World) (c1 : W.cell? ⟨b1, 0, none⟩ = some (.slice (some ⟨g, 0, none⟩) ws.length cp)) (c2 : W.cell? ⟨b2, 0, none⟩ = some (.int .i64 fr)) (c3 : W.cell? ⟨b3, 0, none⟩ = some (.int .i64 m))
    (c4 : ∀ j, j < ws.length → W.cell? ⟨g, j, none⟩ = some (.int .i64 (ws[j]?.getD 0))) (h0 : J [] W) :
    CallsIn F n Try.prog 80 #[.func (.yield l) #[] #[], .pointer (some ⟨b1, 0, none⟩), .pointer (some ⟨b2, 0, none⟩), .pointer (some ⟨b3, 0, none⟩)] W fun e W' => (∃ v, e = .returned v) ∧
     ((∃ ys, ys = List.range ws.length ∧ J ys W') ∨ (∃ pre, (∃ k, k ≤ ws.length ∧ pre = List.range k) ∧ Jx pre W')) := by
 refine callsIn_of_wp Try.func80 rfl h80 ?_ hro
 simp only [Try.ntmps80, List.size_toArray, List.length_cons, List.length_nil, Nat.reduceAdd, Nat.reduceSub, Array.replicate_succ, Array.replicate_zero, List.push_toArray, List.append_toArray, List.nil_append, List.cons_append]
 gi_wp2
 obtain ⟨len, hL⟩ : ∃ len, ws.length = len := ⟨_, rfl⟩
 rw [hL] at hlen hY c1 c4 ⊢
 gi_loopw [9] (fun i wr => ∃ k : Nat, k ≤ len ∧ i = .int .i64 k ∧ J (List.range k) wr ∧ Below n₀ W wr)
  (fun i _ => len - (intOf i).toNat)
 case atStart => exact ⟨0, Nat.zero_le _, rfl, h0, Below.refl _ _⟩
 case round =>
  obtain ⟨k, hk, rfl, hJs, hnx⟩ := hrel
  by_cases hlt : k < len
  ·have hcx : wr.cell? ⟨g, k, none⟩ = some (.int .i64 (ws[k]?.getD 0)) := (hnx.cell (p := ⟨g, k, none⟩) hb.2.2.2).trans (c4 k hlt)
   have hd2 : wr.cell? ⟨b2, 0, none⟩ = some (.int .i64 fr) := (hnx.cell (p := ⟨b2, 0, none⟩) hb.2.1).trans c2
   have hd3 : wr.cell? ⟨b3, 0, none⟩ = some (.int .i64 m) := (hnx.cell (p := ⟨b3, 0, none⟩) hb.2.2.1).trans c3
   obtain ⟨fn, tmps, assign, body, hy, hR⟩ := hY _ k wr hJs (by rw [List.length_range]; exact hlt)
   unfold tapV at hy
   obtain ⟨wk, hwk⟩ : ∃ x, ws[k]?.getD 0 = x := ⟨_, rfl⟩
   rw [hwk] at hcx hy
   obtain ⟨z, hz⟩ : ∃ z : Int, fr + (k : Int) = z := ⟨_, rfl⟩
   have hzz : wrap64 (fr + (k : Int)) = z := by rw [w64 (by omega) (by omega), hz]
   have hmm : wrap64 (m - 1) = m - 1 := w64 (by omega) (by omega)
   rw [hz] at hy
   obtain ⟨v, hv⟩ : ∃ v, cl z m = v := ⟨_, rfl⟩
   rw [hv] at hy
   unfold cl at hv
   by_cases hz0 : z < 0
   ·have hm1 : 0 ≤ m - 1 := by omega
    have hv0 : v = 0 := by rw [if_pos hz0] at hv; split at hv <;> omega
    rw [hv0] at hy
    clear hv hv0
    gi_wp2
    refine hR.mono ?_
    rintro e W3 (⟨rfl, hJ3, hk3⟩ | ⟨rfl, hJx3⟩)
    ·gi_wp2
     go_roundw
     case rel => exact ⟨k + 1, by omega, by simp, by rw [List.range_succ]; exact hJ3, hnx.trans hk3⟩
     case measure => simp [intOf]; omega
    ·gi_wp2
     refine bodyPost_ret (results_none rfl _ _ _) rfl ?_
     exact ⟨⟨_, rfl⟩, .inr ⟨_, ⟨k + 1, by omega, List.range_succ.symm⟩, hJx3⟩⟩
   ·by_cases hz1 : z ≤ m - 1
    ·have hv0 : v = z := by rw [if_neg hz0] at hv; split at hv <;> omega
     have hz2 : 0 ≤ z := by omega
     rw [hv0] at hy
     clear hv hv0
     gi_wp2
     refine hR.mono ?_
     rintro e W3 (⟨rfl, hJ3, hk3⟩ | ⟨rfl, hJx3⟩)
     ·gi_wp2
      go_roundw
      case rel => exact ⟨k + 1, by omega, by simp, by rw [List.range_succ]; exact hJ3, hnx.trans hk3⟩
      case measure => simp [intOf]; omega
     ·gi_wp2
      refine bodyPost_ret (results_none rfl _ _ _) rfl ?_
      exact ⟨⟨_, rfl⟩, .inr ⟨_, ⟨k + 1, by omega, List.range_succ.symm⟩, hJx3⟩⟩
    ·have hv0 : v = m - 1 := by rw [if_neg hz0, if_neg (by omega)] at hv; omega
     have hz2 : 0 ≤ z := by omega
     rw [hv0] at hy
     clear hv hv0
     gi_wp2
     refine hR.mono ?_
     rintro e W3 (⟨rfl, hJ3, hk3⟩ | ⟨rfl, hJx3⟩)
     ·gi_wp2
      go_roundw
      case rel => exact ⟨k + 1, by omega, by simp, by rw [List.range_succ]; exact hJ3, hnx.trans hk3⟩
      case measure => simp [intOf]; omega
     ·gi_wp2
      refine bodyPost_ret (results_none rfl _ _ _) rfl ?_
      exact ⟨⟨_, rfl⟩, .inr ⟨_, ⟨k + 1, by omega, List.range_succ.symm⟩, hJx3⟩⟩
  ·obtain rfl : k = len := by omega
   gi_wp2
   go_end0
   exact ⟨⟨_, rfl⟩, .inl ⟨_, rfl, by rw [hL]; exact hJs⟩⟩
/-- what taps tells, ranged over -/
theorem tap_stops (F : Fence) (n : Nat) (h80 : F.fn 80) (hro : F.round = none) (hn : 1 ≤ n) (lb : Array Value) (ws : List Int) (fr m : Int) (hlen : ws.length < 1000) (hfr : -1000000 ≤ fr ∧ fr < 1000000) (hm : 1 ≤ m ∧ m < 1000000) (w0 w : World) (hI : It w0 lb ws fr m) (hb : Below w0.heap.size w0 w) :
    SeqStopsK F n Try.prog 80 lb (fun x : Nat => #[tapV ws fr m x]) (Below w0.heap.size) (fun ys => ys = List.range ws.length) (fun pre => ∃ k, k ≤ ws.length ∧ pre = List.range k) ws.length w := fun l J Jx W hW _ _ hY h0 => by
 obtain ⟨b1, b2, b3, g, c, rfl, ⟨h1, h2, h3, h4⟩, c1, c2, c3, c4⟩ := hI
 have hW := hb.trans (hW.mono hb.size)
 exact tap1_in F n h80 hro hn l w0.heap.size b1 b2 b3 g c ws fr m hlen hfr hm ⟨h1, h2, h3, h4⟩ J Jx hY W ((hW.cell (p := ⟨b1, 0, none⟩) h1).trans c1) ((hW.cell (p := ⟨b2, 0, none⟩) h2).trans c2) ((hW.cell (p := ⟨b3, 0, none⟩) h3).trans c3) (fun j hj => (hW.cell (p := ⟨g, j, none⟩) h4).trans (c4 j hj)) h0
end Go.Proofs.Ytodlgdpkadkjjaa.A
end
section
set_option linter.unusedVariables false
set_option linter.unusedSimpArgs false
namespace Go.Proofs.Ytodlgdpkadkjjaa.A
open Go.RowKit Go.Shelf Go.Proofs.YtodlgdpkadkjjaaW.PrintWords Go.Proofs.YtodlgdpkadkjjaaW.PrintLast Go.Proofs.YtodlgdpkadkjjaaW.PrintMore Go.Proofs.Ytodlgdpkadkjjaa.PPyramidLevels
attribute [local go_sem] max2_int min2_int max_two min_two
attribute [local go_sem] Oper.semAt_some

theorem run_store_float {P : Program} {w : World} {a : Addr} {m} (k : FloatKind) (b : Nat) : (store a (.float k b) m).run P w = stored P w a (.float k b) m := run_store P w a _ m rfl
attribute [local go_sem] run_store_float
theorem wi64 {n : Int} (h1 : -9223372036854775808 ≤ n) (h2 : n < 9223372036854775808) : IntKind.i64.wrap n = n := by
 rw [IntKind.wrap_i64]; omega
def ints (l : List Nat) : List Int := l.map fun (k : Nat) => (k : Int)
theorem ints_length (l : List Nat) : (ints l).length = l.length := by unfold ints; rw [List.length_map]
theorem ints_get (l : List Nat) (j : Nat) : (ints l)[j]?.getD 0 = ((l[j]?.getD 0 : Nat) : Int) := by
 unfold ints
 rw [List.getElem?_map]
 cases l[j]? <;> rfl
/-- what weighs has behind so many taps: its sum, and that of the weights -/
def wstep (st : Option Nat × Nat) (t : Nat × Nat) : Option Nat × Nat := (if st.2 = 0 then wprod t.1 t.2 else st.1.bind fun a => (wprod t.1 t.2).bind fun p => floatBits .add .f64 a p, st.2 + t.1)
def wst (l : List (Nat × Nat)) : Option Nat × Nat := l.foldl wstep (some 0, 0)
theorem wst_snoc (l : List (Nat × Nat)) (t : Nat × Nat) : wst (l ++ [t]) = wstep (wst l) t := by unfold wst; rw [List.foldl_append]; rfl
/-- the tap at a place of the weights -/
def tapN (wsN ns : List Nat) (step : Nat) (fr m : Int) (j : Nat) : Nat × Nat := (wsN[j]?.getD 0, ns[(cl (fr + j) m).toNat * step]?.getD 0)
def tapL (wsN ns : List Nat) (step : Nat) (fr m : Int) : List (Nat × Nat) := (List.range wsN.length).map (tapN wsN ns step fr m)

theorem wst2_le (l : List (Nat × Nat)) (h : ∀ t ∈ l, t.1 ≤ 16) : (wst l).2 ≤ 16 * l.length := by
 have key : ∀ (l : List (Nat × Nat)) (st : Option Nat × Nat), (∀ t ∈ l, t.1 ≤ 16) → (l.foldl wstep st).2 ≤ st.2 + 16 * l.length := by
  intro l
  induction l with
  | nil => intro st _; simp
  | cons t l ih =>
   intro st h
   rw [List.foldl_cons]
   have h1 := ih (wstep st t) (fun x hx => h x (List.mem_cons_of_mem _ hx))
   have h2 := h t (List.mem_cons_self ..)
   have h3 : (wstep st t).2 = st.2 + t.1 := rfl
   rw [List.length_cons]
   omega
 have := key l (some 0, 0) h
 simpa [wst] using this
theorem wst_from (l : List (Nat × Nat)) : ∀ (acc : Option Nat) (S : Nat), 1 ≤ S → l.foldl wstep (acc, S) = (wsum acc l, S + wtot l) := by
 induction l with
 | nil => intro acc S _; rfl
 | cons t l ih =>
  intro acc S hS
  have e1 : wsum acc (t :: l) = wsum (acc.bind fun a => (wprod t.1 t.2).bind fun p => floatBits .add .f64 a p) l := rfl
  have e2 : wtot (t :: l) = t.1 + wtot l := rfl
  rw [List.foldl_cons, e1, e2, ← Nat.add_assoc, ← ih _ _ (show 1 ≤ S + t.1 by omega)]
  congr 1
  unfold wstep
  rw [if_neg (by omega)]
theorem wst_eq (l : List (Nat × Nat)) (h0 : l ≠ []) (h : ∀ t ∈ l, 1 ≤ t.1) : ((wst l).1.bind fun a => floatBits .quo .f64 a (floatOfInt .f64 ((wtot l : Nat) : Int))) = wmean l ∧ (wst l).2 = wtot l := by
 cases l with
 | nil => exact absurd rfl h0
 | cons t l =>
  have h1 := h t (List.mem_cons_self ..)
  have e : wst (t :: l) = (wsum (wprod t.1 t.2) l, t.1 + wtot l) := by
   unfold wst
   rw [List.foldl_cons, ← wst_from l _ _ h1]
   congr 1
   unfold wstep
   rw [if_pos rfl, Nat.zero_add]
  rw [e]
  exact ⟨rfl, rfl⟩
theorem own_ex {β : Type} (B : Nat) (t : TypeId) (f : β → Nat → Prop) : Own (fun s W => ∃ v, Boxed W B t (.float .f64 v) ∧ f s v) := fun s X Y row hs hg hr => by
 obtain ⟨v, h1, h2⟩ := hs
 exact ⟨v, boxed_own B t (fun (_ : Unit) => Value.float .f64 v) () X Y row h1 hg hr, h2⟩
/-- the variable t of a round: two cells -/
def TBox (W : World) (B : Nat) (x y : Int) : Prop := W.heap[B]? = some (.cells #[.int .i64 x, .int .i64 y] 114 (0, 0))
theorem TBox.cell {W : World} {B : Nat} {x y : Int} (h : TBox W B x y) : W.cell? ⟨B, 0, none⟩ = some (.int .i64 x) := by simp [World.cell?, show W.heap[B]? = _ from h]
theorem TBox.other {W : World} {B B' : Nat} {x y : Int} (h : TBox W B x y) (hne : B ≠ B') (u : Value) : TBox (W.setCell ⟨B', 0, none⟩ u) B x y := by
 have hs' : W.heap[B]? = _ := h
 exact ((grownBy_setCell' W B' u).block B (Array.getElem?_eq_some_iff.1 hs').1 (fun e => hne (by cases e; rfl))).trans hs'
theorem tbox_own {β : Type} (B : Nat) (f g : β → Int) : Own (fun s W => TBox W B (f s) (g s)) := fun s X Y row hs hg hrow => by
 have hs' : X.heap[B]? = _ := hs
 have hlt : B < X.heap.size := (Array.getElem?_eq_some_iff.1 hs').1
 exact (hg.block B hlt (fun e' => by obtain ⟨o, ho, hc⟩ := hrow B e'.symm; rw [hs'] at ho; cases ho; cases hc)).trans hs'

set_option maxRecDepth 100000 in
set_option maxHeartbeats 4000000 in
theorem weighs_calls (A : Option Addr) (cap step : Nat) (ns wsN : List Nat) (lb : Array Value) (fr m : Int) (w : World) (hC : Kd.C (Kd.int .u32) w A ns.length (ints ns)) (hcap : ns.length ≤ cap) (hns : ∀ x ∈ ns, x < 4294967296)
    (hstep : step < 1000000) (hI : It w lb (ints wsN) fr m) (hlen : wsN.length ≤ 16) (hws : ∀ x ∈ wsN, 1 ≤ x ∧ x ≤ 16) (hfr : -1000000 ≤ fr ∧ fr < 1000000) (hm : 1 ≤ m ∧ m < 1000000)
    (hcl : ∀ j : Nat, 0 ≤ cl (fr + j) m) (hidx : ∀ j : Nat, (cl (fr + j) m).toNat * step < ns.length) (t : Nat) (ht : t ≤ 4) (htot : wtot (tapL wsN ns step fr m) = 2 ^ t) :
    Calls Try.prog 72 #[.slice A ns.length cap, .int .i64 (step : Int), .func (.func 80) #[] lb] w fun e w' => e = .returned (.int .u32 ((wbits (tapL wsN ns step fr m) : Nat) : Int)) ∧ Below w.heap.size w w' := by
 have hmx := Kd.C_max hC
 have hT1 : ∀ t ∈ tapL wsN ns step fr m, 1 ≤ t.1 := by
  intro t1 ht1
  obtain ⟨j, hj, rfl⟩ := List.mem_map.mp ht1
  have hj' : j < wsN.length := List.mem_range.mp hj
  unfold tapN
  rw [List.getElem?_eq_getElem hj']
  exact (hws _ (List.getElem_mem hj')).1
 have hT2 : ∀ t ∈ tapL wsN ns step fr m, 1 ≤ t.1 ∧ t.2 < 2 ^ 32 := by
  intro t1 ht1
  refine ⟨hT1 t1 ht1, ?_⟩
  obtain ⟨j, hj, rfl⟩ := List.mem_map.mp ht1
  unfold tapN
  rw [List.getElem?_eq_getElem (hidx j)]
  exact hns _ (List.getElem_mem (hidx j))
 refine (callsIn_wide (n := 4)).1 ?_
 refine callsIn_of_wp_marks Try.func72 rfl trivial ?_ rfl
 simp only [Try.ntmps72, List.size_toArray, List.length_cons, List.length_nil, Nat.reduceAdd, Nat.reduceSub, Array.replicate_succ, Array.replicate_zero, List.push_toArray, List.append_toArray, List.nil_append, List.cons_append]
 obtain ⟨W1, hW1⟩ : ∃ W1, (w.alloc (.cells #[.slice A ns.length cap] 23)).alloc (.cells #[.int .i64 (step : Int)] 3) = W1 := ⟨_, rfl⟩
 have hs1 : W1.heap.size = w.heap.size + 1 + 1 := by rw [← hW1]; simp
 have bL : Boxed W1 w.heap.size 23 (.slice A ns.length cap) := by rw [← hW1]; exact (Boxed.new w 23 _).alloc _
 have bT : Boxed W1 (w.heap.size + 1) 3 (.int .i64 (step : Int)) := by
  rw [← hW1]; have := Boxed.new (w.alloc (.cells #[.slice A ns.length cap] 23)) 3 (.int .i64 (step : Int)); rwa [World.size_alloc] at this
 have bA : Boxed ((W1.alloc (.cells #[.float .f64 0] 57)).alloc (.cells #[.int .i64 0] 3)) (w.heap.size + 1 + 1) 57 (.float .f64 0) := by rw [← hs1]; exact (Boxed.new W1 57 _).alloc _
 have bS : Boxed ((W1.alloc (.cells #[.float .f64 0] 57)).alloc (.cells #[.int .i64 0] 3)) (w.heap.size + 1 + 1 + 1) 3 (.int .i64 0) := by
  have := Boxed.new (W1.alloc (.cells #[.float .f64 0] 57)) 3 (.int .i64 0); rw [World.size_alloc, hs1] at this; exact this
 have cA := bA.cell
 have fA := bA.frozen
 have cS := (bS.other (B' := w.heap.size + 1 + 1) (by omega) (.float .f64 0)).cell
 have fS := (bS.other (B' := w.heap.size + 1 + 1) (by omega) (.float .f64 0)).frozen
 gi_wp2
 have hB0 : Below w.heap.size w ((W1.alloc (.cells #[.float .f64 0] 57)).alloc (.cells #[.int .i64 0] 3)) := by
  rw [← hW1]
  exact ((((Below.refl _ w).alloc (Nat.le_refl _) _).alloc (by simp) _).alloc (by simp; omega) _).alloc (by simp; omega) _
 have hs0 : ((W1.alloc (.cells #[.float .f64 0] 57)).alloc (.cells #[.int .i64 0] 3)).heap.size = w.heap.size + 4 := by simp [hs1]
 have bL0 := (bL.alloc (.cells #[.float .f64 0] 57)).alloc (.cells #[.int .i64 0] 3)
 have bT0 := (bT.alloc (.cells #[.float .f64 0] 57)).alloc (.cells #[.int .i64 0] 3)
 obtain ⟨W0, hW0⟩ : ∃ W0, (W1.alloc (.cells #[.float .f64 0] 57)).alloc (.cells #[.int .i64 0] 3) = W0 := ⟨_, rfl⟩
 rw [hW0] at hB0 hs0 bL0 bT0 bA bS ⊢
 clear cA fA cS fS bL bT hW0 hs1 hW1 W1
 refine wpIn_rangeFunc_ownH rfl (by omega) (gf := 80) (lb := lb) rfl trivial (enters_of Try.func80 (by kernel_rfl) rfl)
  (tap_stops Fence.wide 3 trivial rfl (by omega) lb (ints wsN) fr m (by rw [ints_length]; omega) hfr hm w W0 hI hB0) belowK_t (belowK_b (by omega)) (Below.refl _ _) (fun _ => rfl)
  (fun pre W => ((∃ v, Boxed W (w.heap.size + 1 + 1) 57 (.float .f64 v) ∧ Dv v (wst (pre.map (tapN wsN ns step fr m))).1) ∧ Boxed W (w.heap.size + 1 + 1 + 1) 3 (.int .i64 (((wst (pre.map (tapN wsN ns step fr m))).2 : Nat) : Int)) ∧ Boxed W w.heap.size 23 (.slice A ns.length cap) ∧ Boxed W (w.heap.size + 1) 3 (.int .i64 (step : Int))) ∧ Below w.heap.size w W)
  (fun _ _ _ => False)
  (OwnFrom.and (OwnFrom.and (Own.from (own_ex _ _ _) _) (OwnFrom.and (Own.from (boxed_own _ _ _) _) (OwnFrom.and (Own.from (boxed_own _ _ _) _) (Own.from (boxed_own _ _ _) _)))) (ownFrom_below (Nat.le_refl _) (by omega)))
  (fun _ _ _ _ _ hs _ _ => hs)
  ⟨⟨⟨0, bA, rfl⟩, bS, bL0, bT0⟩, hB0⟩
  (fun x a' W => ∃ Bx, w.heap.size + 1 + 1 + 1 < Bx ∧ TBox W Bx ((ints wsN)[x]?.getD 0) (cl (fr + x) m) ∧ a' = { tmps := #[.slice A ns.length cap, .int .i64 (step : Int), .func (.func 80) #[] lb, .pointer (some ⟨w.heap.size, 0, none⟩), .pointer (some ⟨w.heap.size + 1, 0, none⟩), undef, .int .u32 0, .pointer (some ⟨w.heap.size + 1 + 1, 0, none⟩), .pointer (some ⟨w.heap.size + 1 + 1 + 1, 0, none⟩), .pointer (some ⟨Bx, 0, none⟩), undef, .func (.func 80) #[] lb, tapV (ints wsN) fr m x, undef, undef, undef, undef, undef, undef, undef, undef, undef, undef, undef, undef, undef, undef, undef, undef, undef, undef, undef, undef, undef, undef, undef, undef, undef, undef, undef, undef, undef, undef], defers := [] })
  (fun x a' _ X Y row hs hg hr => by obtain ⟨Bx, h1, h2, h3⟩ := hs; exact ⟨Bx, h1, tbox_own Bx (fun (_ : Unit) => _) (fun _ => _) () X Y row h2 hg (fun r e => (hr r e).2), h3⟩)
  ?assign ?body ?done ?stop
 case assign =>
  rintro l pre x W K ⟨⟨⟨v, bA1, hv⟩, bS1, bL1, bT1⟩, hB1⟩ hK
  unfold tapV
  gi_wp2
  exact hK _ _ ((KeepsOthers.alloc _ _).from _) ((Below.refl _ W).alloc hB1.size _) ⟨⟨⟨v, bA1.alloc _, hv⟩, bS1.alloc _, bL1.alloc _, bT1.alloc _⟩, hB1.alloc hB1.size _⟩ ⟨W.heap.size, by have := bS1.lt; omega, World.alloc_heap_new W _, rfl⟩
 case body =>
  rintro l pre x a' W hl ⟨r, hr⟩ ⟨⟨⟨v, bA1, hv⟩, bS1, bL1, bT1⟩, hB1⟩ ⟨Bx, hBx, bX, rfl⟩ hlt
  have hfrom := fun (s : Nat) w => run_from s w
  have hc0 := hcl x
  have hx1 := hidx x
  obtain ⟨wn, hwn⟩ : ∃ wn, wsN[x]?.getD 0 = wn := ⟨_, rfl⟩
  obtain ⟨zn, hzn⟩ : ∃ zn, (cl (fr + x) m).toNat = zn := ⟨_, rfl⟩
  have hz1 : cl (fr + x) m = (zn : Int) := by omega
  obtain ⟨idx, hidx1⟩ : ∃ i, zn * step = i := ⟨_, rfl⟩
  rw [hzn, hidx1] at hx1
  obtain ⟨s, hs1⟩ : ∃ s, ns[idx]?.getD 0 = s := ⟨_, rfl⟩
  have hT : tapN wsN ns step fr m x = (wn, s) := by unfold tapN; rw [hwn, hzn, hidx1, hs1]
  have hs : s < 4294967296 := by
   rw [← hs1, List.getElem?_eq_getElem hx1]; exact hns _ (List.getElem_mem hx1)
  have hwn16 : wn ≤ 16 := by
   rw [← hwn]
   cases h9 : wsN[x]? with
   | none => simp
   | some y => exact (hws y (List.mem_of_getElem? h9)).2
  rw [ints_get, hwn, hz1] at bX
  have hxm : (idx : Int) < 9223372036854775808 := by omega
  have hCW := Kd.C_below hC hB1
  obtain ⟨ad, cc, rfl, hcl1, hK1, hcell⟩ := Kd.C_get hCW 0 (idx : Int) (by omega) (by omega)
  have hmul : IntKind.i64.wrap ((zn : Int) * (step : Int)) = (idx : Int) := by
   rw [← hidx1, Int.natCast_mul]
   exact wi64 (Int.le_trans (by decide) (Int.mul_nonneg (Int.natCast_nonneg zn) (Int.natCast_nonneg step))) (by rw [← Int.natCast_mul, hidx1]; exact hxm)
  have hmul2 : wrap64 ((zn : Int) * (step : Int)) = (idx : Int) := by
   rw [← hidx1, Int.natCast_mul]
   exact w64 (Int.le_trans (by decide) (Int.mul_nonneg (Int.natCast_nonneg zn) (Int.natCast_nonneg step))) (by rw [← Int.natCast_mul, hidx1]; exact hxm)
  have q0 : W.cell? ⟨Bx, 0, none⟩ = some (.int .i64 (wn : Int)) := by unfold TBox at bX; simp [World.cell?, bX]
  have q1 : W.cell? ⟨Bx, 1, none⟩ = some (.int .i64 (zn : Int)) := by unfold TBox at bX; simp [World.cell?, bX]
  have q2 := bL1.cell
  have q3 := bT1.cell
  have q4 : W.cell? (ad.add idx) = some (.int .u32 (s : Int)) := by
   obtain rfl : cc = [.int .u32 (s : Int)] := by
    have h9 : (ints ns).getD ((idx : Int).toNat) 0 = (s : Int) := by
     rw [Int.toNat_natCast, List.getD_eq_getElem?_getD, ints_get, hs1]
    rw [h9] at hK1
    exact hK1
   have h9 : W.cell? (ad.add ((idx : Int).toNat * 1 + 0)) = some (.int .u32 (s : Int)) := hcell 0 _ rfl
   rw [Int.toNat_natCast, Nat.mul_one, Nat.add_zero] at h9
   exact h9
  refine wpIn_block (wpIn_seq_k fun K0 hK0 => ?_)
  refine start_in (n := 14) (S := fun w' => w'.cell? ⟨Bx, 0, none⟩ = some (.int .i64 (wn : Int)) ∧ w'.cell? ⟨Bx, 1, none⟩ = some (.int .i64 (zn : Int)) ∧ w'.cell? ⟨w.heap.size, 0, none⟩ = some (.slice (some ad) ns.length cap) ∧ w'.cell? ⟨w.heap.size + 1, 0, none⟩ = some (.int .i64 (step : Int)) ∧ w'.cell? (ad.add idx) = some (.int .u32 (s : Int))) (ds := []) #[ff_,ff_,ff_,ff_,ff_,ff_,ff_,ff_,ff_,ff_,ff_,ff_,ff_,ff_] (by kernel_rfl) rfl rfl ⟨q0, q1, q2, q3, q4⟩ (by kernel_rfl) (fun h9 => by obtain ⟨_, _, h9⟩ := h9; exact h9) (fun hHeld => ?_)
  refine pure_ (i := 0) (N := some 13) (v := ?_) (a' := ?_) #[tt_,ff_,ff_,ff_,ff_,ff_,ff_,ff_,ff_,ff_,ff_,ff_,ff_,ff_] rfl rfl (by kernel_rfl) (fun _ _ _ h => h) (Or.inl ⟨by rfl, ?_⟩) ?_ ?_
  rotate_left
  ·intro w'
   go_simp
   with_reducible rfl
  rotate_left
  ·simp only [Act.put, List.setIfInBounds_toArray, List.set_cons_zero, List.set_cons_succ, i64_w, i32_w]
   rfl
  refine pure_ (i := 4) (N := some 17) (v := ?_) (a' := ?_) #[tt_,ff_,ff_,ff_,tt_,ff_,ff_,ff_,ff_,ff_,ff_,ff_,ff_,ff_] rfl rfl (by kernel_rfl) (fun _ _ _ h => h) (Or.inl ⟨by rfl, ?_⟩) ?_ ?_
  rotate_left
  ·intro w'
   go_simp
   with_reducible rfl
  rotate_left
  ·simp only [Act.put, List.setIfInBounds_toArray, List.set_cons_zero, List.set_cons_succ, i64_w, i32_w]
   rfl
  refine take_ (i := 1) (N := some 14) (v := ?_) (a' := ?_) #[tt_,tt_,ff_,ff_,tt_,ff_,ff_,ff_,ff_,ff_,ff_,ff_,ff_,ff_] rfl rfl (by kernel_rfl) (fun _ _ _ h => h) (Or.inl ⟨by rfl, ?_⟩) hHeld ?_ ?_
  rotate_left
  ·rintro w' ⟨s0, s1, s2, s3, s4⟩
   go_simp
   with_reducible rfl
  rotate_left
  ·simp only [Act.put, List.setIfInBounds_toArray, List.set_cons_zero, List.set_cons_succ, i64_w, i32_w]
   rfl
  refine pure_ (i := 2) (N := some 15) (v := ?_) (a' := ?_) #[tt_,tt_,tt_,ff_,tt_,ff_,ff_,ff_,ff_,ff_,ff_,ff_,ff_,ff_] rfl rfl (by kernel_rfl) (fun _ _ _ h => h) (Or.inl ⟨by rfl, ?_⟩) ?_ ?_
  rotate_left
  ·intro w'
   go_simp
   with_reducible rfl
  rotate_left
  ·simp only [Act.put, List.setIfInBounds_toArray, List.set_cons_zero, List.set_cons_succ, i64_w, i32_w]
   rfl
  refine take_ (i := 3) (N := some 16) (v := ?_) (a' := ?_) #[tt_,tt_,tt_,tt_,tt_,ff_,ff_,ff_,ff_,ff_,ff_,ff_,ff_,ff_] rfl rfl (by kernel_rfl) (fun _ _ _ h => h) (Or.inl ⟨by rfl, ?_⟩) hHeld ?_ ?_
  rotate_left
  ·rintro w' ⟨s0, s1, s2, s3, s4⟩
   go_simp
   with_reducible rfl
  rotate_left
  ·simp only [Act.put, List.setIfInBounds_toArray, List.set_cons_zero, List.set_cons_succ, i64_w, i32_w]
   rfl
  refine take_ (i := 5) (N := some 18) (v := ?_) (a' := ?_) #[tt_,tt_,tt_,tt_,tt_,tt_,ff_,ff_,ff_,ff_,ff_,ff_,ff_,ff_] rfl rfl (by kernel_rfl) (fun _ _ _ h => h) (Or.inl ⟨by rfl, ?_⟩) hHeld ?_ ?_
  rotate_left
  ·rintro w' ⟨s0, s1, s2, s3, s4⟩
   go_simp
   with_reducible rfl
  rotate_left
  ·simp only [Act.put, List.setIfInBounds_toArray, List.set_cons_zero, List.set_cons_succ, i64_w, i32_w]
   rfl
  refine take_ (i := 6) (N := some 19) (v := ?_) (a' := ?_) #[tt_,tt_,tt_,tt_,tt_,tt_,tt_,ff_,ff_,ff_,ff_,ff_,ff_,ff_] rfl rfl (by kernel_rfl) (fun _ _ _ h => h) (Or.inl ⟨by rfl, ?_⟩) hHeld ?_ ?_
  rotate_left
  ·rintro w' ⟨s0, s1, s2, s3, s4⟩
   go_simp
   with_reducible rfl
  rotate_left
  ·simp only [Act.put, List.setIfInBounds_toArray, List.set_cons_zero, List.set_cons_succ, i64_w, i32_w]
   rfl
  refine pure_ (i := 7) (N := some 20) (v := ?_) (a' := ?_) #[tt_,tt_,tt_,tt_,tt_,tt_,tt_,tt_,ff_,ff_,ff_,ff_,ff_,ff_] rfl rfl (by kernel_rfl) (fun _ _ _ h => h) (Or.inl ⟨by rfl, ?_⟩) ?_ ?_
  rotate_left
  ·intro w'
   go_simp
   with_reducible rfl
  rotate_left
  ·simp only [Act.put, List.setIfInBounds_toArray, List.set_cons_zero, List.set_cons_succ, i64_w, i32_w]
   rfl
  refine pure_ (i := 8) (N := some 21) (v := ?_) (a' := ?_) #[tt_,tt_,tt_,tt_,tt_,tt_,tt_,tt_,tt_,ff_,ff_,ff_,ff_,ff_] rfl rfl (by kernel_rfl) (fun _ _ _ h => h) (Or.inl ⟨by rfl, ?_⟩) ?_ ?_
  rotate_left
  ·intro w'
   go_simp
   with_reducible rfl
  rotate_left
  ·simp only [Act.put, List.setIfInBounds_toArray, List.set_cons_zero, List.set_cons_succ, i64_w, i32_w]
   rfl
  refine take_ (i := 9) (N := some 22) (v := ?_) (a' := ?_) #[tt_,tt_,tt_,tt_,tt_,tt_,tt_,tt_,tt_,tt_,ff_,ff_,ff_,ff_] rfl rfl (by kernel_rfl) (fun _ _ _ h => h) (Or.inl ⟨by rfl, ?_⟩) hHeld ?_ ?_
  rotate_left
  ·rintro w' ⟨s0, s1, s2, s3, s4⟩
   go_simp
   with_reducible rfl
  rotate_left
  ·simp only [Act.put, List.setIfInBounds_toArray, List.set_cons_zero, List.set_cons_succ, i64_w, i32_w]
   rfl
  refine pure_ (i := 10) (N := some 23) (v := ?_) (a' := ?_) #[tt_,tt_,tt_,tt_,tt_,tt_,tt_,tt_,tt_,tt_,tt_,ff_,ff_,ff_] rfl rfl (by kernel_rfl) (fun _ _ _ h => h) (Or.inl ⟨by rfl, ?_⟩) ?_ ?_
  rotate_left
  ·intro w'
   go_simp
   with_reducible rfl
  rotate_left
  ·simp only [Act.put, List.setIfInBounds_toArray, List.set_cons_zero, List.set_cons_succ, i64_w, i32_w]
   rfl
  refine one_ (i := 11) (N := some 24) #[tt_,tt_,tt_,tt_,tt_,tt_,tt_,tt_,tt_,tt_,tt_,tt_,ff_,ff_] rfl rfl (by kernel_rfl) (by decide) (fun K hK => ?_)
  obtain ⟨v2, m2, hr2, hv2⟩ := step_wv s hs W.drew
  refine value_ (w1 := ?_) (v := ?_) (by rfl) rfl ?_ ?_
  rotate_left 2
  ·go_simp
   constructor
   ·rfl
   ·rfl
  refine hK.out _ _ ⟨q0, q1, q2, q3, q4⟩ (fun hHeld => ?_)
  clear hK K
  refine norm_ (a' := ?_) ?_ ?_
  rotate_left
  ·show Act.put _ (some 24) _ = _
   simp only [Act.put, List.setIfInBounds_toArray, List.set_cons_zero, List.set_cons_succ, i64_w, i32_w]
   rfl
  refine one_ (i := 12) (N := some 25) #[tt_,tt_,tt_,tt_,tt_,tt_,tt_,tt_,tt_,tt_,tt_,tt_,tt_,ff_] rfl rfl (by kernel_rfl) (by decide) (fun K hK => ?_)
  obtain ⟨v3, m3, hr3, hv3⟩ := step_op .mul (.inr (.inl rfl)) 57 (show Dv (floatOfInt .f64 (wn : Int)) (some (floatOfInt .f64 (wn : Int))) from rfl) hv2 (W.drewN (1 + m2))
  refine value_ (w1 := ?_) (v := ?_) (by rfl) rfl ?_ ?_
  rotate_left 2
  ·go_simp
   constructor
   ·rfl
   ·rfl
  refine hK.out _ _ ⟨q0, q1, q2, q3, q4⟩ (fun hHeld => ?_)
  clear hK K
  refine norm_ (a' := ?_) ?_ ?_
  rotate_left
  ·show Act.put _ (some 25) _ = _
   simp only [Act.put, List.setIfInBounds_toArray, List.set_cons_zero, List.set_cons_succ, i64_w, i32_w]
   rfl
  refine pure_ (i := 13) (N := some 10) (v := ?_) (a' := ?_) #[tt_,tt_,tt_,tt_,tt_,tt_,tt_,tt_,tt_,tt_,tt_,tt_,tt_,tt_] rfl rfl (by kernel_rfl) (fun _ _ _ h => h) (Or.inl ⟨by rfl, ?_⟩) ?_ ?_
  rotate_left
  ·intro w'
   go_simp
   with_reducible rfl
  rotate_left
  ·simp only [Act.put, List.setIfInBounds_toArray, List.set_cons_zero, List.set_cons_succ, i64_w, i32_w]
   rfl
  refine done_ (by kernel_rfl) ?_
  refine hK0 _ _ ?_
  clear hK0 hHeld q0 q1 q2 q3 q4
  obtain ⟨W2, hW2⟩ : ∃ W2, W.drewN (1 + m2 + m3) = W2 := ⟨_, rfl⟩
  have bA2 : Boxed W2 (w.heap.size + 1 + 1) 57 (.float .f64 v) := by rw [← hW2]; exact bA1
  have bS2 : Boxed W2 (w.heap.size + 1 + 1 + 1) 3 (.int .i64 (((wst (pre.map (tapN wsN ns step fr m))).2 : Nat) : Int)) := by rw [← hW2]; exact bS1
  have bL2 : Boxed W2 w.heap.size 23 (.slice (some ad) ns.length cap) := by rw [← hW2]; exact bL1
  have bT2 : Boxed W2 (w.heap.size + 1) 3 (.int .i64 (step : Int)) := by rw [← hW2]; exact bT1
  have tX2 : TBox W2 Bx (wn : Int) (zn : Int) := by rw [← hW2]; exact bX
  have hB2 : Below w.heap.size W W2 := by rw [← hW2]; exact pw_below_drewN (Below.refl _ _) _
  have hK2 : KeepsFrom W0.heap.size W W2 := by rw [← hW2]; exact ⟨Nat.le_refl _, fun k o hk h0 ho => h0⟩
  have hsz : w.heap.size + 1 + 1 + 1 < W2.heap.size := bS2.lt
  rw [hW2]
  clear hW2 bA1 bS1 bL1 bT1 bX
  have hsum : (wst (pre.map (tapN wsN ns step fr m))).2 ≤ 16 * 16 := by
   refine Nat.le_trans (wst2_le _ ?_) (by rw [List.length_map]; rw [ints_length] at hlt; omega)
   intro t1 ht1
   obtain ⟨j, _, rfl⟩ := List.mem_map.mp ht1
   unfold tapN
   cases h9 : wsN[j]? with
   | none => simp
   | some y => exact (hws y (List.mem_of_getElem? h9)).2
  by_cases h0 : (wst (pre.map (tapN wsN ns step fr m))).2 = 0
  ·skip
   rw [h0] at bS2
   have cA := bA2.cell
   have cS := bS2.cell
   have fA := bA2.frozen
   have fS := bS2.frozen
   have bA3 : Boxed (W2.setCell ⟨w.heap.size + 1 + 1, 0, none⟩ (.float .f64 v3)) (w.heap.size + 1 + 1) 57 (.float .f64 v3) := Boxed.set (W := W2) _ bA2
   have bS3 := Boxed.other (W := W2) (B' := w.heap.size + 1 + 1) bS2 (by omega) (.float .f64 v3)
   have bL3 := Boxed.other (W := W2) (B' := w.heap.size + 1 + 1) bL2 (by omega) (.float .f64 v3)
   have bT3 := Boxed.other (W := W2) (B' := w.heap.size + 1 + 1) bT2 (by omega) (.float .f64 v3)
   have tX3 := TBox.other (W := W2) (B' := w.heap.size + 1 + 1) tX2 (by omega) (.float .f64 v3)
   have cS3 := bS3.cell
   have fS3 := bS3.frozen
   have cX3 := tX3.cell
   gi_wp2
   have e1 : (pre ++ [x]).map (tapN wsN ns step fr m) = pre.map (tapN wsN ns step fr m) ++ [(wn, s)] := by rw [List.map_append, ← hT]; rfl
   have hS2 : (wst ((pre ++ [x]).map (tapN wsN ns step fr m))).2 = (wst (pre.map (tapN wsN ns step fr m))).2 + wn := by rw [e1, wst_snoc]; rfl
   have hS1 : (wst ((pre ++ [x]).map (tapN wsN ns step fr m))).1 = wprod wn s := by
    rw [e1, wst_snoc]
    unfold wstep
    rw [if_pos h0]
   have hBB : Below w.heap.size W ((W2.setCell ⟨w.heap.size + 1 + 1, 0, none⟩ (.float .f64 v3)).setCell ⟨w.heap.size + 1 + 1 + 1, 0, none⟩ (.int .i64 (wn : Int))) := (hB2.setCell (p := ⟨w.heap.size + 1 + 1, 0, none⟩) (by simp; omega) _).setCell (p := ⟨w.heap.size + 1 + 1 + 1, 0, none⟩) (by simp; omega) _
   refine ⟨(hK2.trans ((KeepsOthers.setCell _ _ _).from _)).trans ((KeepsOthers.setCell _ _ _).from _), hBB, ⟨⟨v3, bA3.other (by omega) _, ?_⟩, ?_, bL3.other (by omega) _, bT3.other (by omega) _⟩, hB1.trans hBB⟩
   ·rw [hS1]; exact hv3
   ·rw [hS2]
    have h9 := bS3.set (.int .i64 (wn : Int))
    rw [h0, Nat.zero_add]; exact h9
  ·have h0' : (((((wst (pre.map (tapN wsN ns step fr m))).2 : Nat) : Int) == 0)) = false := by rw [beq_eq_false_iff_ne]; omega
   obtain ⟨v4, m4, hr4, hv4⟩ := step_op .add (.inl rfl) 57 hv hv3 W2
   have cA := bA2.cell
   have cS := bS2.cell
   have fA := bA2.frozen
   have fS := bS2.frozen
   have bA3 : Boxed ((W2.drewN m4).setCell ⟨w.heap.size + 1 + 1, 0, none⟩ (.float .f64 v4)) (w.heap.size + 1 + 1) 57 (.float .f64 v4) := Boxed.set (W := (W2.drewN m4)) _ bA2
   have bS3 := Boxed.other (W := (W2.drewN m4)) (B' := w.heap.size + 1 + 1) bS2 (by omega) (.float .f64 v4)
   have bL3 := Boxed.other (W := (W2.drewN m4)) (B' := w.heap.size + 1 + 1) bL2 (by omega) (.float .f64 v4)
   have bT3 := Boxed.other (W := (W2.drewN m4)) (B' := w.heap.size + 1 + 1) bT2 (by omega) (.float .f64 v4)
   have tX3 := TBox.other (W := (W2.drewN m4)) (B' := w.heap.size + 1 + 1) tX2 (by omega) (.float .f64 v4)
   have cS3 := bS3.cell
   have fS3 := bS3.frozen
   have cX3 := tX3.cell
   gi_wp2
   have e1 : (pre ++ [x]).map (tapN wsN ns step fr m) = pre.map (tapN wsN ns step fr m) ++ [(wn, s)] := by rw [List.map_append, ← hT]; rfl
   have hS2 : (wst ((pre ++ [x]).map (tapN wsN ns step fr m))).2 = (wst (pre.map (tapN wsN ns step fr m))).2 + wn := by rw [e1, wst_snoc]; rfl
   have hS1 : (wst ((pre ++ [x]).map (tapN wsN ns step fr m))).1 = (wst (pre.map (tapN wsN ns step fr m))).1.bind fun x => (wprod wn s).bind fun y => floatBits .add .f64 x y := by
    rw [e1, wst_snoc]
    unfold wstep
    rw [if_neg h0]
   have hBB : Below w.heap.size W (((W2.drewN m4).setCell ⟨w.heap.size + 1 + 1, 0, none⟩ (.float .f64 v4)).setCell ⟨w.heap.size + 1 + 1 + 1, 0, none⟩ (.int .i64 ((((wst (pre.map (tapN wsN ns step fr m))).2 : Nat) : Int) + (wn : Int)))) := ((pw_below_drewN hB2 m4).setCell (p := ⟨w.heap.size + 1 + 1, 0, none⟩) (by simp; omega) _).setCell (p := ⟨w.heap.size + 1 + 1 + 1, 0, none⟩) (by simp; omega) _
   refine ⟨((hK2.trans (show KeepsFrom W0.heap.size W2 (W2.drewN m4) from ⟨Nat.le_refl _, fun k o hk h0 ho => h0⟩)).trans ((KeepsOthers.setCell _ _ _).from _)).trans ((KeepsOthers.setCell _ _ _).from _), hBB, ⟨⟨v4, bA3.other (by omega) _, ?_⟩, ?_, bL3.other (by omega) _, bT3.other (by omega) _⟩, hB1.trans hBB⟩
   ·rw [hS1]; exact hv4
   ·rw [hS2]
    have h9 := bS3.set (.int .i64 ((((wst (pre.map (tapN wsN ns step fr m))).2 : Nat) : Int) + (wn : Int)))
    rw [Int.natCast_add]; exact h9
 case done =>
  rintro D ys W hD rfl ⟨⟨⟨v, bA1, hv⟩, bS1, bL1, bT1⟩, hB1⟩ hK
  rw [ints_length] at hv bS1
  have hTL : (List.range wsN.length).map (tapN wsN ns step fr m) = tapL wsN ns step fr m := rfl
  rw [hTL] at hv bS1
  have hne : tapL wsN ns step fr m ≠ [] := by
   intro h; rw [h] at htot; have := Nat.two_pow_pos t; have h2 : wtot [] = 0 := rfl; omega
  obtain ⟨hw1, hw2⟩ := wst_eq (tapL wsN ns step fr m) hne hT1
  rw [hw2, htot] at bS1
  have cA := bA1.cell
  have cS := bS1.cell
  have hbk := wbits_ok (tapL wsN ns step fr m) t ht hT2 htot
  obtain ⟨v5, m5, hr5, hv5⟩ := step_op .quo (.inr (.inr rfl)) 57 hv (show Dv (floatOfInt .f64 ((2 ^ t : Nat) : Int)) (some (floatOfInt .f64 ((2 ^ t : Nat) : Int))) from rfl) W
  have hv6 : Dv v5 (wmean (tapL wsN ns step fr m)) := by
   rw [← hw1, htot]
   exact hv5
  obtain ⟨u, m6, hr6, hu1, hu2⟩ := step_back hv6 (fun q hq => by
   rcases hbk with ⟨h9, _⟩ | ⟨q', h9, h8, _⟩
   ·rw [h9] at hq; cases hq
   ·rw [h9] at hq; cases hq; exact ⟨_, h8⟩) (W.drewN m5)
  have hu3 : u < 4294967296 ∧ mk u = wbits (tapL wsN ns step fr m) := by
   unfold mk
   rcases hbk with ⟨h9, h8⟩ | ⟨q', h9, h8, h7, h6⟩
   ·obtain ⟨ha, hb⟩ := hu1 h9
    rw [if_pos ha, h8]; exact ⟨hb, rfl⟩
   ·have ha := hu2 q' h9
    rw [h8] at ha
    obtain rfl := Option.some.inj ha
    rw [h7]; exact ⟨h6, rfl⟩
  have hbits := fun (s : Nat) w => run_bits s w
  obtain ⟨tt, htt⟩ : ∃ tt : Nat, 2 ^ t = tt := ⟨_, rfl⟩
  rw [htt] at cS hr5
  clear hv hv5 hbk hu1 hu2 hw1 hw2 hT1 hT2 hne htot
  gi_wp2_with (first | (gi_at_call 78; refine (callsIn_wide.2 (Made_calls u _ hu3.1)).mono ?_; rintro e w' ⟨rfl, hB9⟩) | (refine ⟨trivial, ?_⟩; gi_at_call 78; refine (callsIn_wide.2 (Made_calls u _ hu3.1)).mono ?_; rintro e w' ⟨rfl, hB9⟩) | (refine ⟨trivial, ?_⟩))
  have hDlt : D < W.heap.size := (Array.getElem?_eq_some_iff.1 hK).1
  have hK9 : w'.heap[D]? = some (.deferred (some [])) := (hB9.block D hDlt).trans hK
  have hBz : Below w.heap.size w w' := (pw_below_drewN hB1 (m5 + m6)).trans (hB9.mono hB1.size)
  refine ⟨by simp, .inl ⟨_, _, rfl, run_takeDeferred hK9, ?_⟩⟩
  exact ⟨_, results_tmp rfl _ _ _, rfl, hBz.trans (belowK_b (w := w) (Nat.le_refl _) w' D _ _ (by omega) hK9 rfl rfl)⟩
 case stop =>
  rintro D c pre W _ _ h _
  exact h.elim
end Go.Proofs.Ytodlgdpkadkjjaa.A
end
section
set_option linter.unusedVariables false
set_option linter.unusedSimpArgs false
namespace Go.Proofs.Ytodlgdpkadkjjaa.A
open Go.RowKit Go.Shelf Go.Proofs.YtodlgdpkadkjjaaW.PrintWords Go.Proofs.YtodlgdpkadkjjaaW.PrintLast Go.Proofs.YtodlgdpkadkjjaaW.PrintMore Go.Proofs.Ytodlgdpkadkjjaa.PPyramidLevels

/-- three boxes laid behind a row of weights -/
theorem It_new (W : World) (g c : Nat) (wsN : List Nat) (fr m : Int) (hg : g < W.heap.size) (hr : ∀ j, j < wsN.length → W.cell? ⟨g, j, none⟩ = some (.int .i64 ((wsN[j]?.getD 0 : Nat) : Int))) :
    It (((W.alloc (.cells #[.slice (some ⟨g, 0, none⟩) wsN.length c] 31)).alloc (.cells #[.int .i64 fr] 3)).alloc (.cells #[.int .i64 m] 3)) #[.pointer (some ⟨W.heap.size, 0, none⟩), .pointer (some ⟨W.heap.size + 1, 0, none⟩), .pointer (some ⟨W.heap.size + 1 + 1, 0, none⟩)] (ints wsN) fr m := by
 have b1 := ((Boxed.new W 31 (.slice (some ⟨g, 0, none⟩) wsN.length c)).alloc (.cells #[.int .i64 fr] 3)).alloc (.cells #[.int .i64 m] 3)
 have b2 := (Boxed.new (W.alloc (.cells #[.slice (some ⟨g, 0, none⟩) wsN.length c] 31)) 3 (.int .i64 fr)).alloc (.cells #[.int .i64 m] 3)
 have b3 := Boxed.new ((W.alloc (.cells #[.slice (some ⟨g, 0, none⟩) wsN.length c] 31)).alloc (.cells #[.int .i64 fr] 3)) 3 (.int .i64 m)
 simp only [World.size_alloc] at b2 b3
 refine ⟨_, _, _, g, c, rfl, ⟨b1.lt, b2.lt, b3.lt, by simp; omega⟩, ?_, b2.cell, b3.cell, ?_⟩
 ·rw [ints_length]; exact b1.cell
 ·intro j hj
  rw [ints_length] at hj
  rw [ints_get, ← hr j hj]
  have hB : Below W.heap.size W (((W.alloc (.cells #[.slice (some ⟨g, 0, none⟩) wsN.length c] 31)).alloc (.cells #[.int .i64 fr] 3)).alloc (.cells #[.int .i64 m] 3)) := (((Below.refl _ W).alloc (Nat.le_refl _) _).alloc (by simp) _).alloc (by simp; omega) _
  exact hB.cell (p := ⟨g, j, none⟩) hg
set_option maxHeartbeats 1000000 in
theorem reduces_calls (i m : Int) (hi : 0 ≤ i ∧ i < 100000) (w : World) :
    Calls Try.prog 54 #[.int .i64 i, .int .i64 m] w fun e w' => ∃ lb, e = .returned (.func (.func 80) #[] lb) ∧ It w' lb (ints [1, 4, 6, 4, 1]) (2 * i - 2) m ∧ Below w.heap.size w w' := by
 have h1 : wrap64 (2 * i) = 2 * i := w64 (by omega) (by omega)
 have h2 : wrap64 (2 * i - 2) = 2 * i - 2 := w64 (by omega) (by omega)
 go_enter Try.func54, Try.ntmps54
 go_wp2_with (go_at_call 73; refine (taps_calls _ _ _ _ _ _).mono ?_; rintro e w' ⟨rfl, rfl⟩)
 go_ret
 refine ⟨_, rfl, ?_, ?_⟩
 ·have h := It_new (w.alloc (.cells #[.int .i64 1, .int .i64 4, .int .i64 6, .int .i64 4, .int .i64 1] 3)) w.heap.size 5 [1, 4, 6, 4, 1] (2 * i - 2) m (by simp) (by
   intro j hj
   have hc : ∀ j, (w.alloc (.cells #[.int .i64 1, .int .i64 4, .int .i64 6, .int .i64 4, .int .i64 1] 3)).cell? ⟨w.heap.size, j, none⟩ = #[Value.int .i64 1, .int .i64 4, .int .i64 6, .int .i64 4, .int .i64 1][j]? := by
    intro j; have h9 := World.alloc_heap_new w (.cells #[.int .i64 1, .int .i64 4, .int .i64 6, .int .i64 4, .int .i64 1] 3); unfold World.cell?; simp only [h9]; rfl
   rw [hc]
   have hj5 : j < 5 := hj
   rcases (show j = 0 ∨ j = 1 ∨ j = 2 ∨ j = 3 ∨ j = 4 by omega) with rfl | rfl | rfl | rfl | rfl <;> rfl)
  simp only [World.size_alloc] at h
  exact h
 ·exact ((((Below.refl _ w).alloc (Nat.le_refl _) _).alloc (by simp) _).alloc (by simp; omega) _).alloc (by simp; omega) _
set_option maxHeartbeats 1000000 in
theorem expands0_calls (i : Nat) (m : Int) (hi : i < 100000) (h0 : i % 2 = 0) (w : World) :
    Calls Try.prog 57 #[.int .i64 (i : Int), .int .i64 m] w fun e w' => ∃ lb, e = .returned (.func (.func 80) #[] lb) ∧ It w' lb (ints [1, 6, 1]) (((i / 2 : Nat) : Int) - 1) m ∧ Below w.heap.size w w' := by
 have h1 : ((i : Int).tmod 2 == 0) = true := by rw [beq_iff_eq]; have : (i : Int).tmod 2 = ((i % 2 : Nat) : Int) := rfl; omega
 obtain ⟨q, hq⟩ : ∃ q, i / 2 = q := ⟨_, rfl⟩
 have h2 : (i : Int).tdiv 2 = (q : Int) := by rw [← hq]; rfl
 have hq2 : q < 100000 := by omega
 rw [hq]
 have h3 : wrap64 ((q : Int) - 1) = (q : Int) - 1 := w64 (by omega) (by omega)
 go_enter Try.func57, Try.ntmps57
 go_wp2_with (go_at_call 73; refine (taps_calls _ _ _ _ _ _).mono ?_; rintro e w' ⟨rfl, rfl⟩)
 go_ret
 refine ⟨_, rfl, ?_, ?_⟩
 ·have h := It_new (w.alloc (.cells #[.int .i64 1, .int .i64 6, .int .i64 1] 3)) w.heap.size 3 [1, 6, 1] ((q : Int) - 1) m (by simp) (by
   intro j hj
   have hc : ∀ j, (w.alloc (.cells #[.int .i64 1, .int .i64 6, .int .i64 1] 3)).cell? ⟨w.heap.size, j, none⟩ = #[Value.int .i64 1, .int .i64 6, .int .i64 1][j]? := by
    intro j; have h9 := World.alloc_heap_new w (.cells #[.int .i64 1, .int .i64 6, .int .i64 1] 3); unfold World.cell?; simp only [h9]; rfl
   rw [hc]
   have hj5 : j < 3 := hj
   rcases (show j = 0 ∨ j = 1 ∨ j = 2 by omega) with rfl | rfl | rfl <;> rfl)
  simp only [World.size_alloc] at h
  exact h
 ·exact ((((Below.refl _ w).alloc (Nat.le_refl _) _).alloc (by simp) _).alloc (by simp; omega) _).alloc (by simp; omega) _
set_option maxHeartbeats 1000000 in
theorem expands1_calls (i : Nat) (m : Int) (hi : i < 100000) (h0 : i % 2 = 1) (w : World) :
    Calls Try.prog 57 #[.int .i64 (i : Int), .int .i64 m] w fun e w' => ∃ lb, e = .returned (.func (.func 80) #[] lb) ∧ It w' lb (ints [1, 1]) ((i / 2 : Nat) : Int) m ∧ Below w.heap.size w w' := by
 have h1 : ((i : Int).tmod 2 == 0) = false := by rw [beq_eq_false_iff_ne]; have : (i : Int).tmod 2 = ((i % 2 : Nat) : Int) := rfl; omega
 obtain ⟨q, hq⟩ : ∃ q, i / 2 = q := ⟨_, rfl⟩
 have h2 : (i : Int).tdiv 2 = (q : Int) := by rw [← hq]; rfl
 have hq2 : q < 100000 := by omega
 rw [hq]
 go_enter Try.func57, Try.ntmps57
 go_wp2_with (go_at_call 73; refine (taps_calls _ _ _ _ _ _).mono ?_; rintro e w' ⟨rfl, rfl⟩)
 go_ret
 refine ⟨_, rfl, ?_, ?_⟩
 ·have h := It_new (w.alloc (.cells #[.int .i64 1, .int .i64 1] 3)) w.heap.size 2 [1, 1] (q : Int) m (by simp) (by
   intro j hj
   have hc : ∀ j, (w.alloc (.cells #[.int .i64 1, .int .i64 1] 3)).cell? ⟨w.heap.size, j, none⟩ = #[Value.int .i64 1, .int .i64 1][j]? := by
    intro j; have h9 := World.alloc_heap_new w (.cells #[.int .i64 1, .int .i64 1] 3); unfold World.cell?; simp only [h9]; rfl
   rw [hc]
   have hj5 : j < 2 := hj
   rcases (show j = 0 ∨ j = 1 by omega) with rfl | rfl <;> rfl)
  simp only [World.size_alloc] at h
  exact h
 ·exact ((((Below.refl _ w).alloc (Nat.le_refl _) _).alloc (by simp) _).alloc (by simp; omega) _).alloc (by simp; omega) _
end Go.Proofs.Ytodlgdpkadkjjaa.A
end
section
set_option linter.unusedVariables false
set_option linter.unusedSimpArgs false
namespace Go.Proofs.Ytodlgdpkadkjjaa.A
open Go.RowKit Go.Shelf Go.Proofs.YtodlgdpkadkjjaaW.PrintWords Go.Proofs.YtodlgdpkadkjjaaW.PrintLast Go.Proofs.YtodlgdpkadkjjaaW.PrintMore Go.Proofs.Ytodlgdpkadkjjaa.PPyramidLevels

/-- a shape: the weights of a new place, and where they begin -/
structure Shape where
 tw : Nat → List Nat
 tf : Nat → Int
/-- the shape's function -/
def ShapeC (f : FuncId) (S : Shape) : Prop := ∀ (i : Nat) (m : Int) (w : World), i < 100000 → Calls Try.prog f #[.int .i64 (i : Int), .int .i64 m] w fun e w' => ∃ lb, e = .returned (.func (.func 80) #[] lb) ∧ It w' lb (ints (S.tw i)) (S.tf i) m ∧ Below w.heap.size w w'
def reduceS : Shape := ⟨fun _ => [1, 4, 6, 4, 1], fun i => 2 * (i : Int) - 2⟩
def expandS : Shape := ⟨fun i => if i % 2 = 0 then [1, 6, 1] else [1, 1], fun i => if i % 2 = 0 then ((i / 2 : Nat) : Int) - 1 else ((i / 2 : Nat) : Int)⟩
theorem reduce_shape : ShapeC 54 reduceS := fun i m w hi => reduces_calls (i : Int) m ⟨by omega, by omega⟩ w
theorem expand_shape : ShapeC 57 expandS := fun i m w hi => by
 unfold expandS
 by_cases c : i % 2 = 0
 ·simp only [c, if_true]; exact expands0_calls i m hi c w
 ·simp only [c, if_false]; exact expands1_calls i m hi (by omega) w
/-- weights that weighs takes -/
def ShapeG (S : Shape) : Prop := ∀ i, i < 100000 → ((S.tw i).length ≤ 16 ∧ (∀ x ∈ S.tw i, 1 ≤ x ∧ x ≤ 16) ∧ (-1000000 ≤ S.tf i ∧ S.tf i < 1000000) ∧ ∃ t, t ≤ 4 ∧ ∀ ns step m, wtot (tapL (S.tw i) ns step (S.tf i) m) = 2 ^ t)
theorem reduce_good : ShapeG reduceS := fun i hi => by
 refine ⟨show ([1, 4, 6, 4, 1] : List Nat).length ≤ 16 by decide, show ∀ x ∈ ([1, 4, 6, 4, 1] : List Nat), 1 ≤ x ∧ x ≤ 16 by decide, ?_, 4, by decide, fun ns step m => rfl⟩
 unfold reduceS; simp only; omega
theorem expand_good : ShapeG expandS := fun i hi => by
 unfold expandS
 by_cases c : i % 2 = 0
 ·simp only [c, if_true]
  exact ⟨by decide, by decide, by omega, 3, by decide, fun ns step m => rfl⟩
 ·simp only [c, if_false]
  exact ⟨by decide, by decide, by omega, 1, by decide, fun ns step m => rfl⟩
theorem cl_range (z n : Int) (hn : 1 ≤ n) : 0 ≤ cl z n ∧ cl z n ≤ n - 1 := by
 unfold cl; split <;> split <;> omega
/-- a new sample -/
def smp (S : Shape) (ns : List Nat) (step i n : Nat) : Nat := wbits (tapL (S.tw i) ns step (S.tf i) (n : Int))
theorem smp_lt (S : Shape) (hG : ShapeG S) (ns : List Nat) (hns : ∀ x ∈ ns, x < 4294967296) (step i n : Nat) (hi : i < 100000) (hn : 1 ≤ n) : smp S ns step i n < 4294967296 := by
 obtain ⟨h1, h2, h3, t, ht, h4⟩ := hG i hi
 refine wbits_lt _ t ht ?_ (h4 ns step n)
 intro t1 ht1
 obtain ⟨j, hj, rfl⟩ := List.mem_map.mp ht1
 have hj' : j < (S.tw i).length := List.mem_range.mp hj
 unfold tapN
 constructor
 ·rw [List.getElem?_eq_getElem hj']
  exact (h2 _ (List.getElem_mem hj')).1
 ·simp only
  cases h9 : ns[(cl (S.tf i + j) n).toNat * step]? with
  | none => simp
  | some y => exact hns y (List.mem_of_getElem? h9)
/-- weighs at a shape's taps -/
theorem smp_calls (S : Shape) (hG : ShapeG S) (A : Option Addr) (cap step i n : Nat) (ns : List Nat) (lb : Array Value) (w : World) (hC : Kd.C (Kd.int .u32) w A ns.length (ints ns)) (hcap : ns.length ≤ cap) (hns : ∀ x ∈ ns, x < 4294967296)
    (hstep : step < 1000000) (hi : i < 100000) (hn : 1 ≤ n ∧ n < 1000000) (hI : It w lb (ints (S.tw i)) (S.tf i) (n : Int)) (hidx : (n - 1) * step < ns.length) :
    Calls Try.prog 72 #[.slice A ns.length cap, .int .i64 (step : Int), .func (.func 80) #[] lb] w fun e w' => e = .returned (.int .u32 ((smp S ns step i n : Nat) : Int)) ∧ Below w.heap.size w w' := by
 obtain ⟨h1, h2, h3, t, ht, h4⟩ := hG i hi
 have hcl := fun z : Int => cl_range z (n : Int) (by omega)
 refine weighs_calls A cap step ns (S.tw i) lb (S.tf i) (n : Int) w hC hcap hns hstep hI h1 h2 h3 ⟨by omega, by omega⟩ (fun j => (hcl _).1) (fun j => ?_) t ht (h4 ns step n)
 refine Nat.lt_of_le_of_lt (Nat.mul_le_mul_right step ?_) hidx
 have := hcl (S.tf i + j)
 omega
/-- the grid of a function -/
def gridTo (F : Nat → Nat → Nat) (W n : Nat) : List Nat := (List.range n).map (fun i => F (i % W) (i / W))
theorem gridTo_succ (F : Nat → Nat → Nat) {W x y : Nat} (hx : x < W) : gridTo F W (y * W + x + 1) = gridTo F W (y * W + x) ++ [F x y] := by
 unfold gridTo
 rw [List.range_succ, List.map_append, List.map_singleton]
 have h1 : (y * W + x) % W = x := by rw [Nat.add_comm, Nat.add_mul_mod_self_right, Nat.mod_eq_of_lt hx]
 have h2 : (y * W + x) / W = y := by rw [Nat.add_comm, Nat.add_mul_div_right _ _ (by omega : 0 < W), Nat.div_eq_of_lt hx, Nat.zero_add]
 rw [h1, h2]
theorem gridTo_length (F : Nat → Nat → Nat) (W n : Nat) : (gridTo F W n).length = n := by simp [gridTo]
theorem gridTo_mem {F : Nat → Nat → Nat} {W H x : Nat} (h : x ∈ gridTo F W (H * W)) : ∃ a b, a < W ∧ b < H ∧ x = F a b := by
 obtain ⟨i, hi, rfl⟩ := List.mem_map.mp h
 have hi' : i < H * W := List.mem_range.mp hi
 have hW : 0 < W := by
  rcases Nat.eq_zero_or_pos W with h0 | h0
  ·rw [h0, Nat.mul_zero] at hi'; omega
  ·exact h0
 exact ⟨i % W, i / W, Nat.mod_lt _ hW, (Nat.div_lt_iff_lt_mul hW).mpr hi', rfl⟩
theorem gridTo_get (F : Nat → Nat → Nat) {W x y n : Nat} (hx : x < W) (hn : y * W + x < n) : (gridTo F W n)[y * W + x]? = some (F x y) := by
 unfold gridTo
 rw [List.getElem?_map, List.getElem?_range hn]
 have h1 : (y * W + x) % W = x := by rw [Nat.add_comm, Nat.add_mul_mod_self_right, Nat.mod_eq_of_lt hx]
 have h2 : (y * W + x) / W = y := by rw [Nat.add_comm, Nat.add_mul_div_right _ _ (by omega : 0 < W), Nat.div_eq_of_lt hx, Nat.zero_add]
 simp only [Option.map_some, h1, h2]
/-- a plane's rows made of another width -/
def midZ (S : Shape) (W H w : Nat) (p : List Nat) : List Nat := gridTo (fun x y => smp S ((p.drop (y * W)).take W) 1 x W) w (H * w)
/-- .. and of another height -/
def resZ (S : Shape) (W H w h : Nat) (p : List Nat) : List Nat := gridTo (fun x y => smp S ((midZ S W H w p).drop x) w y H) w (h * w)
theorem midZ_length (S : Shape) (W H w : Nat) (p : List Nat) : (midZ S W H w p).length = H * w := gridTo_length ..
theorem resZ_length (S : Shape) (W H w h : Nat) (p : List Nat) : (resZ S W H w h p).length = h * w := gridTo_length ..
theorem midZ_lt (S : Shape) (hG : ShapeG S) (W H w : Nat) (p : List Nat) (hp : ∀ x ∈ p, x < 4294967296) (hW : 1 ≤ W) (hw : w < 100000) : ∀ x ∈ midZ S W H w p, x < 4294967296 := by
 intro x hx
 obtain ⟨k, y, hk', _, rfl⟩ := gridTo_mem hx
 exact smp_lt S hG _ (fun z hz => hp z (List.mem_of_mem_drop (List.mem_of_mem_take hz))) 1 k W (by omega) hW
theorem resZ_lt (S : Shape) (hG : ShapeG S) (W H w h : Nat) (p : List Nat) (hp : ∀ x ∈ p, x < 4294967296) (hW : 1 ≤ W) (hH : 1 ≤ H) (hw : w < 100000) (hh : h < 100000) : ∀ x ∈ resZ S W H w h p, x < 4294967296 := by
 intro x hx
 obtain ⟨k, y, hk', hy', rfl⟩ := gridTo_mem hx
 exact smp_lt S hG _ (fun z hz => midZ_lt S hG W H w p hp hW hw z (List.mem_of_mem_drop hz)) w y H (by omega) hH
end Go.Proofs.Ytodlgdpkadkjjaa.A
end
section
set_option linter.unusedVariables false
set_option linter.unusedSimpArgs false
namespace Go.Proofs.Ytodlgdpkadkjjaa.A

/-- a new sample hangs on those at its taps alone -/
theorem smp_ext (S : Shape) (ns ns' : List Nat) (step step' i n : Nat) (h : ∀ j, j < (S.tw i).length → ns[(cl (S.tf i + j) n).toNat * step]?.getD 0 = ns'[(cl (S.tf i + j) n).toNat * step']?.getD 0) : smp S ns step i n = smp S ns' step' i n := by
 unfold smp tapL
 congr 1
 refine List.map_congr_left fun j hj => ?_
 unfold tapN
 rw [h j (List.mem_range.mp hj)]
end Go.Proofs.Ytodlgdpkadkjjaa.A
end
section
set_option linter.unusedVariables false
set_option linter.unusedSimpArgs false
namespace Go.Proofs.Ytodlgdpkadkjjaa.A
open Go.RowKit Go.Shelf Go.Proofs.YtodlgdpkadkjjaaW.PrintWords Go.Proofs.YtodlgdpkadkjjaaW.PrintLast Go.Proofs.YtodlgdpkadkjjaaW.PrintMore Go.Proofs.Ytodlgdpkadkjjaa.PPyramidLevels

def nat (k : IntKind) : Kd Nat := Kd.scalar (fun x : Nat => Value.int k x) (fun _ => rfl)
/-- the element at a place (the walk's simp leaves it alone) -/
def gt (xs : List Nat) (i : Nat) : Nat := xs.getD i 0
set_option maxHeartbeats 1000000 in
set_option maxRecDepth 100000 in
theorem C_nat {k : IntKind} {w : World} {A : Option Addr} {n : Nat} {xs : List Nat} (h : (nat k).C w A n xs) (i : Nat) (hi : i < n) : ∃ ad, A = some ad ∧ w.cell? (ad.add i) = some (.int k (gt xs i)) := by
 obtain ⟨ad, c, hA, hl, hK, hc⟩ := Kd.C_get h 0 i (by omega) (by omega)
 refine ⟨ad, hA, ?_⟩
 have hK' : c = [.int k (gt xs i)] := hK
 have := hc 0 _ (by rw [hK']; rfl)
 simpa [nat, Kd.scalar] using this

theorem ints_append (a b : List Nat) : ints (a ++ b) = ints a ++ ints b := by simp [ints]
theorem ints_inj {a b : List Nat} (h : ints a = ints b) : a = b := by
 have := congrArg (List.map Int.toNat) h
 simpa [ints, Function.comp_def] using this
theorem ints_getD (l : List Nat) (i : Nat) : (ints l).getD i 0 = ((gt l i : Nat) : Int) := by
 unfold gt ints
 rw [List.getD_eq_getElem?_getD, List.getD_eq_getElem?_getD, List.getElem?_map]
 cases l[i]? <;> rfl
theorem ints_replicate (n v : Nat) : List.replicate n (v : Int) = ints (List.replicate n v) := by simp [ints]
section
variable {k : IntKind} {w : World} {A : Option Addr} {n : Nat} {xs : List Nat} {e : TypeId} {B : Nat} {ok : Nat → Prop} {v : Value}
theorem C_ints (h : (nat k).C w A n xs) : (Kd.int k).C w A n (ints xs) := by
 obtain ⟨h1, h2, h3⟩ := Kd.reads_of_C (d := 0) h
 refine Kd.C_of_reads (d := 0) ⟨by rw [ints_length]; exact h1, h2, fun hp => ?_⟩
 obtain ⟨ad, he, hc⟩ := h3 hp
 refine ⟨ad, he, fun j hj => ?_⟩
 rw [hc j hj, ints_getD]
 rfl
theorem C_nats (h : (Kd.int k).C w A n (ints xs)) : (nat k).C w A n xs := by
 obtain ⟨h1, h2, h3⟩ := Kd.reads_of_C (d := 0) h
 refine Kd.C_of_reads (d := 0) ⟨by rw [ints_length] at h1; exact h1, h2, fun hp => ?_⟩
 obtain ⟨ad, he, hc⟩ := h3 hp
 refine ⟨ad, he, fun j hj => ?_⟩
 have := hc j hj
 rw [ints_getD] at this
 exact this
theorem encs_ints : encs (Value.int k) (ints xs) = encs (fun x : Nat => Value.int k x) xs := by simp [encs, ints, Function.comp_def]
theorem R_ints (h : (nat k).R e w B ok v xs) : (Kd.int k).R e w B ok v (ints xs) := by
 refine Kd.R_of_own ?_ h.1
 rw [ints_length, encs_ints]
 exact Kd.own_of_R h
theorem R_nats (h : (Kd.int k).R e w B ok v (ints xs)) : (nat k).R e w B ok v xs := by
 refine Kd.R_of_own ?_ h.1
 have h2 := Kd.own_of_R h
 rw [ints_length, encs_ints] at h2
 exact h2
end
end Go.Proofs.Ytodlgdpkadkjjaa.A
end
section
set_option linter.unusedVariables false
set_option linter.unusedSimpArgs false
namespace Go.Proofs.Ytodlgdpkadkjjaa.A
open Go.RowKit Go.Shelf Go.Proofs.YtodlgdpkadkjjaaW.PrintWords Go.Proofs.YtodlgdpkadkjjaaW.PrintLast Go.Proofs.YtodlgdpkadkjjaaW.PrintMore Go.Proofs.Ytodlgdpkadkjjaa.PPyramidLevels

theorem info50 : (Try.prog.info? 50).map (fun i => (i.zero, i.size, i.bytes)) = some (some (.int .u32 0), 1, 4) := by kernel_rfl
section
variable {P : Program} {ops : Array Oper} {Q : Exit → Act → World → Prop}
/-- A call of a function value, by its contract. -/
theorem goesV_ {oi : Oper} {N : Option Tmp} {a : Act} {w : World} {K : Act → World → Prop} {f : FuncId} {fn : Func} {os : Array Operand} {ts : Array TypeId} {tm : Operand} {caps : Array Value} (hf : P.funcs[f]? = some fn) (hname : (fn.name == "runtime.NumGoroutine") = false) (hb : fn.body.isSome = true) (args : Array Value)
    (hw : Region.wanted oi (yielded ops a.tmps) = true) (hN : oi.dst = N) (hop : oi.op = .call { callee := .value tm, args := os, argTypes := ts }) (htm : a.eval tm = .func (.func f) #[] caps) (hargs : os.map a.eval = args)
    (h : Calls P f (args ++ caps) w fun e w' => ∃ v, e = .returned v ∧ K (a.put N v) w') : if Region.wanted oi (yielded ops a.tmps) = true then Oper.wp P oi a w K Q else K (a.put N undef) w := by
 refine call_ f (args ++ caps) hw hN ?_ h
 have he := enters_ hf hname hb (args ++ caps) w
 unfold execOp
 simp [hop, resolve, Deferred.ofValue, invoke, htm, hargs, he]
theorem make0_step {o : Oper} {N : Option Tmp} {a : Act} {W : World} {K : Act → World → Prop} (hw : Region.wanted o (yielded ops a.tmps) = true) (hN : o.dst = N) (t e : TypeId) (x y : Operand) (ho : o.op = .makeSlice t x y) (n : Nat) (hx : a.eval x = .int .i64 0) (hy : a.eval y = .int .i64 (n : Int))
    (ht : P.underlying t = some (.slice e)) (z : Value) (bytes : Nat) (hinfo : (P.info? e).map (fun i => (i.zero, i.size, i.bytes)) = some (some z, 1, bytes)) (hn : n ≤ 1048576) (hl : bytes * n ≤ 281474976710656)
    (h : ∀ g, g = W.heap.size → K (a.put N (.slice (some ⟨g, 0, none⟩) 0 n)) (W.alloc (.cells (madeCells z.cells n) e (0, 0)))) : if Region.wanted o (yielded ops a.tmps) = true then Oper.wp P o a W K Q else K (a.put N undef) W := by
 obtain ⟨i0, hi, hzz⟩ := Option.map_eq_some_iff.1 hinfo
 simp only [Prod.mk.injEq] at hzz
 obtain ⟨hz0, hz1, hz2⟩ := hzz
 have hr := run_make (P := P) W t e i0 z ht hi hz0 .i64 .i64 0 (n : Int) (by omega) (by omega) (by rw [hz2, ← Int.natCast_mul]; omega) (by omega)
 simp only [Int.toNat_natCast, hz1, Nat.mul_one] at hr
 refine value_ hw hN ?_ (h _ rfl)
 simp [execOp, ho, hx, hy, hr]
theorem alloc_step {o : Oper} {N : Option Tmp} {a : Act} {W : World} {K : Act → World → Prop} {cs : Array Value} {t : TypeId} (hw : Region.wanted o (yielded ops a.tmps) = true) (hN : o.dst = N)
    (hrun : (execOp a.eval o).run P W = .ok (.value (.pointer (some ⟨W.heap.size, 0, none⟩))) (W.alloc (.cells cs t (0, 0))))
    (h : ∀ g, g = W.heap.size → K (a.put N (.pointer (some ⟨g, 0, none⟩))) (W.alloc (.cells cs t (0, 0)))) : if Region.wanted o (yielded ops a.tmps) = true then Oper.wp P o a W K Q else K (a.put N undef) W := value_ hw hN hrun (h _ rfl)
theorem size_made (z : Array Value) (n : Nat) : (madeCells z n).size = n := size_madeCells z n
theorem R_made0 {k : IntKind} {w : World} {B g n : Nat} {e : TypeId} {cells : Array Value} (hb : w.heap[g]? = some (.cells cells e (0, 0))) (hg : B ≤ g) (hn : n ≤ 1048576) (hs : cells.size = n) : (nat k).R e w B (fun _ => True) (.slice (some ⟨g, 0, none⟩) 0 n) [] := by
 refine Kd.R_of_own ⟨rfl, .inr ⟨g, n, cells, rfl, hg, hb, Nat.zero_le _, ?_, by rw [hs, Nat.mul_one], ?_⟩⟩ (fun _ _ => trivial)
 ·simp only [maxLen]; omega
 ·rfl
end
section
variable {P : Program} {ops : Array Oper} {Q : Exit → Act → World → Prop} {o : Oper} {rest : List Oper} {a : Act}
/-- make of a row with room behind it, as a step of a region of one order -/
theorem make0_event {W : World} (hgd : o.guard = none) {N : Tmp} (hN : o.dst = some N) (t e : TypeId) (x y : Operand) (ho : o.op = .makeSlice t x y) (n : Nat) (hx : a.eval x = .int .i64 0) (hy : a.eval y = .int .i64 (n : Int))
    (ht : P.underlying t = some (.slice e)) (z : Value) (bytes : Nat) (hinfo : (P.info? e).map (fun i => (i.zero, i.size, i.bytes)) = some (some z, 1, bytes)) (hn : n ≤ 1048576) (hl : bytes * n ≤ 281474976710656)
    (h : ∀ g, g = W.heap.size → ∀ w1, w1.heap[g]? = some (.cells (madeCells z.cells n) e (0, 0)) → Below W.heap.size W w1 → wpList P ops Q rest (a.put o.dst (.slice (some ⟨g, 0, none⟩) 0 n)) w1) : wpList P ops Q (o :: rest) a W := by
 obtain ⟨i0, hi, hzz⟩ := Option.map_eq_some_iff.1 hinfo
 simp only [Prod.mk.injEq] at hzz
 obtain ⟨hz0, hz1, hz2⟩ := hzz
 have hr := run_make (P := P) W t e i0 z ht hi hz0 .i64 .i64 0 (n : Int) (by omega) (by omega) (by rw [hz2, ← Int.natCast_mul]; omega) (by omega)
 simp only [Int.toNat_natCast, hz1, Nat.mul_one] at hr
 exact Kd.event_run hgd (by simp [execOp, ho, hx, hy, hr]) (h _ rfl _ (blk_new W _) (below_alloc (Below.refl _ _) _))
end
theorem put3 {w3 w4 : World} {gp : Nat} {t : TypeId} {a b c x y z : Value} (hP : w3.heap[gp]? = some (.cells #[a, b, c] t (0, 0))) (h : w4 = ((w3.setCell ⟨gp, 0, none⟩ x).setCell ⟨gp, 1, none⟩ y).setCell ⟨gp, 2, none⟩ z) :
    w4.heap[gp]? = some (.cells #[x, y, z] t (0, 0)) ∧ (∀ k, k ≠ gp → w4.heap[k]? = w3.heap[k]?) ∧ (∀ B, B ≤ gp → Below B w3 w4) := by
 subst h
 refine ⟨(blk_set ((blk_set ((blk_set hP 0 x).trans rfl) 1 y).trans rfl) 2 z).trans rfl, fun k hk => ?_, fun B hB => ?_⟩
 ·exact (Below.heap_setCell _ _ _ k hk).trans ((Below.heap_setCell _ _ _ k hk).trans (Below.heap_setCell _ _ _ k hk))
 ·exact (((Below.refl B w3).setCell (p := ⟨gp, 0, none⟩) hB x).setCell (p := ⟨gp, 1, none⟩) hB y).setCell (p := ⟨gp, 2, none⟩) hB z
end Go.Proofs.Ytodlgdpkadkjjaa.A
end
section
set_option linter.unusedVariables false
set_option linter.unusedSimpArgs false
namespace Go.Proofs.Ytodlgdpkadkjjaa.A
open Go.RowKit Go.Shelf Go.Proofs.YtodlgdpkadkjjaaW.PrintWords Go.Proofs.YtodlgdpkadkjjaaW.PrintLast Go.Proofs.YtodlgdpkadkjjaaW.PrintMore Go.Proofs.Ytodlgdpkadkjjaa.PPyramidLevels

section
variable {P : Program} {ops : Array Oper} {Q : Exit → Act → World → Prop} {o : Oper} {rest : List Oper} {a : Act}
/-- a call of a function value, by its contract, in a region of one order -/
theorem callV0_event {W : World} (hgd : o.guard = none) {N : Tmp} (hN : o.dst = some N) {f : FuncId} {fn : Func} {os : Array Operand} {ts : Array TypeId} {tm : Operand} (hf : P.funcs[f]? = some fn) (hname : (fn.name == "runtime.NumGoroutine") = false) (hb : fn.body.isSome = true) (args : Array Value)
    (hop : o.op = .call { callee := .value tm, args := os, argTypes := ts }) (htm : a.eval tm = .func (.func f) #[] #[]) (hargs : os.map a.eval = args)
    (h : Calls P f args W fun e w' => ∃ v, e = .returned v ∧ wpList P ops Q rest (a.put o.dst v) w') : wpList P ops Q (o :: rest) a W := by
 have he := enters_ hf hname hb args W
 refine wpList_plain hgd fun K hK => ?_
 unfold Oper.wp
 have hr : (execOp a.eval o).run P W = .ok (.enter f args) W := by
  unfold execOp
  simp [hop, resolve, Deferred.ofValue, invoke, htm, hargs, he]
 rw [hr, Oper.upon_enter]
 refine h.mono fun e w'' hh => ?_
 obtain ⟨v, rfl, hk⟩ := hh
 exact hK _ _ hk
/-- an operation that leaves the world -/
theorem same_event {W : World} (hgd : o.guard = none) (v : Value) (hrun : (execOp a.eval o).run P W = .ok (.value v) W) (h : wpList P ops Q rest (a.put o.dst v) W) : wpList P ops Q (o :: rest) a W := Kd.event_run hgd hrun h
variable {oi : Oper} {N : Option Tmp} {w : World} {K : Act → World → Prop}
/-- the same in a drawn region -/
theorem goesV0_ {f : FuncId} {fn : Func} {os : Array Operand} {ts : Array TypeId} {tm : Operand} (hf : P.funcs[f]? = some fn) (hname : (fn.name == "runtime.NumGoroutine") = false) (hb : fn.body.isSome = true) (args : Array Value)
    (hw : Region.wanted oi (yielded ops a.tmps) = true) (hN : oi.dst = N) (hop : oi.op = .call { callee := .value tm, args := os, argTypes := ts }) (htm : a.eval tm = .func (.func f) #[] #[]) (hargs : os.map a.eval = args)
    (h : Calls P f args w fun e w' => ∃ v, e = .returned v ∧ K (a.put N v) w') : if Region.wanted oi (yielded ops a.tmps) = true then Oper.wp P oi a w K Q else K (a.put N undef) w :=
 goesV_ hf hname hb args hw hN hop htm hargs (by rw [Array.append_empty]; exact h)
end
section
variable {o : Oper} {a : Act}
theorem ev_mul {x y : Operand} {X Y Z : Int} (ho : o.op = .binOp .mul 3 x y 3) (hx : a.eval x = .int .i64 X) (hy : a.eval y = .int .i64 Y) (hz : X * Y = Z) (h0 : 0 ≤ Z) (h1 : Z < 9223372036854775808) (w : World) : (execOp a.eval o).run Try.prog w = .ok (.value (.int .i64 Z)) w := by
 have h : wrap64 (X * Y) = Z := by rw [hz]; exact w64 (by omega) h1
 unfold execOp
 simp only [ho, hx, hy]
 go_simp
 rw [wi64 (by omega) h1]
theorem ev_slice3 {x l h m : Operand} {A : Option Addr} {n cap lo hi k : Nat} (ho : o.op = .slice 23 x (some l) (some h) (some m)) (hx : a.eval x = .slice A n cap) (hl : a.eval l = .int .i64 (lo : Int)) (hh : a.eval h = .int .i64 (hi : Int)) (hm : a.eval m = .int .i64 (hi : Int)) (hk : lo + k = hi) (hk0 : 0 < k) (hc : hi ≤ cap) (w : World) :
    (execOp a.eval o).run Try.prog w = .ok (.value (.slice (A.map (·.add lo)) k k)) w := by
 have h1 := run_slice_lhm (P := Try.prog) w 23 A n cap (by kernel_rfl) .i64 .i64 .i64 (lo : Int) (hi : Int) (hi : Int) (by omega) (by omega) (by omega) (by omega)
 have e : Try.prog.elem 23 = 50 := by kernel_rfl
 unfold execOp
 simp only [ho, hx, hl, hh, hm, Option.map_some]
 rw [e] at h1
 have hs : (sizeOf 50).run Try.prog w = .ok 1 w := by
  obtain ⟨i0, hi0, hz⟩ := Option.map_eq_some_iff.1 info50
  simp only [Prod.mk.injEq] at hz
  simp [sizeOf, typeInfo, hi0, hz.2.1]
 rw [hs] at h1
 have e2 : (hi : Int).toNat = hi := Int.toNat_natCast hi
 have e3 : (lo : Int).toNat = lo := Int.toNat_natCast lo
 simp only [Result.andThen, e2, e3, sliced, Nat.mul_one] at h1
 rw [if_neg (by omega), show hi - lo = k by omega] at h1
 simp only [Sem.run_bind, run_sliceAt_slice (P := Try.prog) w 23 (.slice A n cap) (some (.int .i64 (lo : Int))) (some (.int .i64 (hi : Int))) (some (.int .i64 (hi : Int))) (by kernel_rfl), h1, Sem.run_pure, Result.andThen_ok]
/-- xs[x:] -/
theorem from_run (A : Option Addr) (n cap lo : Nat) (h1 : lo ≤ n) (h2 : lo < cap) (w : World) : (Instr.slice 23 (.slice A n cap) (some (.int .i64 (lo : Int))) none none).run Try.prog w = .ok (.slice (A.map (·.add lo)) (n - lo) (cap - lo)) w := by
 have h1 := run_slice_l (P := Try.prog) w 23 A n cap (by kernel_rfl) .i64 (lo : Int) (by omega) (by omega)
 have e : Try.prog.elem 23 = 50 := by kernel_rfl
 rw [e] at h1
 have hs : (sizeOf 50).run Try.prog w = .ok 1 w := by
  obtain ⟨i0, hi0, hz⟩ := Option.map_eq_some_iff.1 info50
  simp only [Prod.mk.injEq] at hz
  simp [sizeOf, typeInfo, hi0, hz.2.1]
 rw [hs] at h1
 have e3 : (lo : Int).toNat = lo := Int.toNat_natCast lo
 simp only [Result.andThen, e3, sliced, Nat.mul_one] at h1
 rw [if_neg (by omega)] at h1
 exact h1
end
theorem nat_mid {k : IntKind} {w : World} {A : Option Addr} {n lo m : Nat} {xs : List Nat} (h : (nat k).C w A n xs) (hlo : lo + m ≤ n) : (nat k).C w (A.map (·.add lo)) m ((xs.drop lo).take m) := by
 have hl := Kd.C_len h
 subst hl
 have h2 := Kd.C_mid (c := lo + 1 + xs.length) h (lo := lo) (hi := lo + m) (by omega) hlo (by omega)
 rw [if_neg (by omega)] at h2
 have e1 : (xs.take (lo + m)).drop lo = (xs.drop lo).take m := by rw [List.drop_take]; congr 1; omega
 have e2 : ((xs.drop lo).take m).length = m := by rw [List.length_take, List.length_drop]; omega
 rw [e1, e2] at h2
 have e3 : lo * (nat k).sz = lo := Nat.mul_one lo
 rw [e3] at h2
 exact h2
theorem nat_from {k : IntKind} {w : World} {A : Option Addr} {n lo : Nat} {xs : List Nat} (h : (nat k).C w A n xs) (hlo : lo ≤ n) : (nat k).C w (A.map (·.add lo)) (n - lo) (xs.drop lo) := by
 have h1 := nat_mid h (lo := lo) (m := n - lo) (by omega)
 have hl := Kd.C_len h
 rwa [List.take_of_length_le (by rw [List.length_drop]; omega)] at h1
theorem smp1_calls (S : Shape) (hG : ShapeG S) (A : Option Addr) (cap i n m : Nat) (ns : List Nat) (lb : Array Value) (w : World) (hl : ns.length = m) (hC : (nat .u32).C w A m ns) (hcap : m ≤ cap) (hns : ∀ x ∈ ns, x < 4294967296)
    (hi : i < 100000) (hI : It w lb (ints (S.tw i)) (S.tf i) (n : Int)) (hn : 1 ≤ n ∧ n < 1000000) (hidx : n - 1 < m) :
    Calls Try.prog 72 #[.slice A m cap, .int .i64 1, .func (.func 80) #[] lb] w fun e w' => e = .returned (.int .u32 ((smp S ns 1 i n : Nat) : Int)) ∧ Below w.heap.size w w' := by
 subst hl
 exact smp_calls S hG A cap 1 i n ns lb w (C_ints hC) hcap hns (by omega) hi hn hI (by omega)
theorem smpn_calls (S : Shape) (hG : ShapeG S) (A : Option Addr) (cap step i n m : Nat) (ns : List Nat) (lb : Array Value) (w : World) (hl : ns.length = m) (hC : (nat .u32).C w A m ns) (hcap : m ≤ cap) (hns : ∀ x ∈ ns, x < 4294967296)
    (hi : i < 100000) (hI : It w lb (ints (S.tw i)) (S.tf i) (n : Int)) (hst : step < 1000000) (hn : 1 ≤ n ∧ n < 1000000) (hidx : (n - 1) * step < m) :
    Calls Try.prog 72 #[.slice A m cap, .int .i64 (step : Int), .func (.func 80) #[] lb] w fun e w' => e = .returned (.int .u32 ((smp S ns step i n : Nat) : Int)) ∧ Below w.heap.size w w' := by
 subst hl
 exact smp_calls S hG A cap step i n ns lb w (C_ints hC) hcap hns hst hi hn hI hidx
end Go.Proofs.Ytodlgdpkadkjjaa.A
end
