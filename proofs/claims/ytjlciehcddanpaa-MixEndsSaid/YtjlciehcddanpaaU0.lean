import Derived.ArgAppend
import Derived.Below
import Derived.BigQuiet
import Derived.Deep.AppendLies
import Derived.Deep.CutBlock
import Derived.Deep.DeepCutAuto
import Derived.Deep.Draws
import Derived.Deep.LoopGhost
import Derived.Deep.OwnRows
import Derived.Deep.QuietTactic
import Derived.Deep.RegionHeld3
import Derived.KernelRfl
import Derived.Laws.BitsLemmas
import Derived.Laws.BytesArg
import Derived.Laws.FloatArith
import Derived.Laws.IdiomCopy
import Derived.Laws.MakeOwn
import Derived.Laws.OwnMore
import Derived.Laws.Rows
import Derived.Laws.Slices
import Derived.Laws.StructEq
import Derived.Lib.AppendStr
import Derived.Lib.ConvBytes
import Derived.Maps.AppendAt
import Derived.OrdersHeld
import Derived.OwnWalk
import Derived.RowKit
import Derived.RowKit3
import Derived.Tactics
import Derived.WalkKit
import Derived.WideLaws
abbrev tt_ : Bool := true
abbrev ff_ : Bool := false
section
set_option linter.unusedVariables false
set_option linter.unusedSimpArgs false
namespace Go.Proofs.Ytjlciehcddanpaa.A
open Ieee

/-- 'n / 2 ^ d' to the nearest whole number, between two the even one -/
def re (n d : Nat) : Nat := n / 2 ^ d + if 2 ^ d < 2 * (n % 2 ^ d) ∨ (2 ^ d = 2 * (n % 2 ^ d) ∧ n / 2 ^ d % 2 = 1) then 1 else 0
theorem re_mono {n m d : Nat} (h : n ≤ m) : re n d ≤ re m d := by
 unfold re
 have hg : 0 < 2 ^ d := Nat.two_pow_pos d
 generalize 2 ^ d = g at *
 have h1 : n / g ≤ m / g := Nat.div_le_div_right h
 rcases Nat.lt_or_eq_of_le h1 with h2 | h2
 ·split <;> split <;> omega
 ·have e1 := Nat.div_add_mod n g
  have e2 := Nat.div_add_mod m g
  rw [h2] at e1 ⊢
  have h3 : n % g ≤ m % g := by omega
  by_cases c : g < 2 * (n % g) ∨ (g = 2 * (n % g) ∧ m / g % 2 = 1)
  ·rw [if_pos c, if_pos (by omega)]; omega
  ·rw [if_neg c]; omega
theorem re_exact (k d : Nat) : re (k * 2 ^ d) d = k := by
 unfold re
 have hg : 0 < 2 ^ d := Nat.two_pow_pos d
 rw [Nat.mul_div_cancel _ hg, Nat.mul_mod_left]
 rw [if_neg (by omega)]; omega
theorem re_zero (n : Nat) : re n 0 = n := by
 have := re_exact n 0
 rwa [Nat.pow_zero, Nat.mul_one] at this
theorem re_le {n k d : Nat} (h : n ≤ k * 2 ^ d) : re n d ≤ k := by have := re_mono (d := d) h; rwa [re_exact] at this
theorem re_ge {n k d : Nat} (h : k * 2 ^ d ≤ n) : k ≤ re n d := by have := re_mono (d := d) h; rwa [re_exact] at this
theorem re_scale (n d k : Nat) : re (n * 2 ^ k) (d + k) = re n d := by
 unfold re
 have hk : 0 < 2 ^ k := Nat.two_pow_pos k
 rw [Nat.pow_add, Nat.mul_div_mul_right _ _ hk, Nat.mul_mod_mul_right]
 have e1 : (2 ^ d * 2 ^ k < 2 * (n % 2 ^ d * 2 ^ k)) ↔ (2 ^ d < 2 * (n % 2 ^ d)) := by
  rw [← Nat.mul_assoc]; exact Nat.mul_lt_mul_right hk
 have e2 : (2 ^ d * 2 ^ k = 2 * (n % 2 ^ d * 2 ^ k)) ↔ (2 ^ d = 2 * (n % 2 ^ d)) := by
  rw [← Nat.mul_assoc]; exact Nat.mul_left_inj (by omega)
 simp only [e1, e2]
theorem cut_re (neg : Bool) (n d : Nat) : Toward.even.cut neg n d = re n d := by
 unfold Toward.cut re
 simp only [Nat.one_shiftLeft]
 by_cases h : d ≤ n.log2 + 2
 ·rw [Nat.min_eq_left h]
  simp only [Bool.toNat]
  by_cases c : 2 ^ d < 2 * (n % 2 ^ d) ∨ (2 ^ d = 2 * (n % 2 ^ d) ∧ n / 2 ^ d % 2 = 1)
  ·rw [if_pos c]
   have : (decide (2 ^ d < 2 * (n % 2 ^ d)) || 2 ^ d == 2 * (n % 2 ^ d) && n / 2 ^ d % 2 == 1) = true := by
    simp only [Bool.or_eq_true, decide_eq_true_eq, Bool.and_eq_true, beq_iff_eq]; exact c
   rw [this]; rfl
  ·rw [if_neg c]
   have : (decide (2 ^ d < 2 * (n % 2 ^ d)) || 2 ^ d == 2 * (n % 2 ^ d) && n / 2 ^ d % 2 == 1) = false := by
    rw [Bool.eq_false_iff]
    simp only [ne_eq, Bool.or_eq_true, decide_eq_true_eq, Bool.and_eq_true, beq_iff_eq]; exact c
   rw [this]; rfl
 ·have hn : n < 2 ^ (n.log2 + 1) := Nat.lt_log2_self
  have h2 : 2 ^ (n.log2 + 2) = 2 * 2 ^ (n.log2 + 1) := by rw [Nat.pow_succ, Nat.mul_comm]
  have h3 : 2 ^ (n.log2 + 2) ≤ 2 ^ d := Nat.pow_le_pow_right (by decide) (by omega)
  rw [Nat.min_eq_right (by omega), Nat.div_eq_of_lt (by omega), Nat.mod_eq_of_lt (by omega), Nat.div_eq_of_lt (by omega), Nat.mod_eq_of_lt (by omega : n < 2 ^ d)]
  rw [if_neg (by omega)]
  have : (decide (2 ^ (n.log2 + 2) < 2 * n) || 2 ^ (n.log2 + 2) == 2 * n && 0 % 2 == 1) = false := by
   rw [Bool.eq_false_iff]
   simp only [ne_eq, Bool.or_eq_true, decide_eq_true_eq, Bool.and_eq_true, beq_iff_eq]; omega
  rw [this]; rfl
/-- the rung of 'n' units, the least one of a format of 'fb' bits of fraction being 2 ^ c units (no end upwards) -/
def G (fb c n : Nat) : Nat := if n = 0 then 0 else (max (n.log2 - fb) c - c) * 2 ^ fb + re n (max (n.log2 - fb) c)
theorem log2_le {n m : Nat} (h0 : n ≠ 0) (h : n ≤ m) : n.log2 ≤ m.log2 := (Nat.le_log2 (by omega)).mpr (Nat.le_trans (Nat.log2_self_le h0) h)
theorem log2_scale {n : Nat} (h0 : n ≠ 0) (k : Nat) : (n * 2 ^ k).log2 = n.log2 + k := by
 have hk : 0 < 2 ^ k := Nat.two_pow_pos k
 have h1 := Nat.log2_self_le h0
 have h2 : n < 2 ^ (n.log2 + 1) := Nat.lt_log2_self
 have hne : n * 2 ^ k ≠ 0 := Nat.mul_ne_zero h0 (by omega)
 rw [Nat.log2_eq_iff hne]
 constructor
 ·rw [Nat.pow_add]; exact Nat.mul_le_mul_right _ h1
 ·rw [show n.log2 + k + 1 = (n.log2 + 1) + k by omega, Nat.pow_add]; exact Nat.mul_lt_mul_of_pos_right h2 hk
theorem G_mono {fb c n m : Nat} (h : n ≤ m) : G fb c n ≤ G fb c m := by
 by_cases h0 : n = 0
 ·subst h0; unfold G; rw [if_pos rfl]; omega
 unfold G
 rw [if_neg h0, if_neg (by omega)]
 have hl := log2_le h0 h
 obtain ⟨a, ha⟩ : ∃ a, max (n.log2 - fb) c = a := ⟨_, rfl⟩
 obtain ⟨b, hb⟩ : ∃ b, max (m.log2 - fb) c = b := ⟨_, rfl⟩
 rw [ha, hb]
 rcases Nat.lt_or_eq_of_le (show a ≤ b by omega) with h2 | h2
 ·have hn : n < 2 ^ (n.log2 + 1) := Nat.lt_log2_self
  have h3 : n ≤ 2 ^ (fb + 1) * 2 ^ a := by
   rw [← Nat.pow_add]
   exact Nat.le_trans (Nat.le_of_lt hn) (Nat.pow_le_pow_right (by decide) (by omega))
  have h4 := re_le h3
  have hm := Nat.log2_self_le (show m ≠ 0 by omega)
  have h5 : 2 ^ fb * 2 ^ b ≤ m := by
   rw [← Nat.pow_add]
   exact Nat.le_trans (Nat.pow_le_pow_right (by decide) (by omega)) hm
  have h6 := re_ge h5
  have h7 : (a - c) * 2 ^ fb + 2 ^ (fb + 1) = (a - c + 1) * 2 ^ fb + 2 ^ fb := by rw [Nat.pow_succ, Nat.succ_mul]; omega
  have h8 : (a - c + 1) * 2 ^ fb ≤ (b - c) * 2 ^ fb := Nat.mul_le_mul_right _ (by omega)
  omega
 ·subst h2
  have := re_mono (d := a) h
  omega
theorem G_scale (fb c n k : Nat) : G fb (c + k) (n * 2 ^ k) = G fb c n := by
 unfold G
 by_cases h0 : n = 0
 ·subst h0; simp
 have hk : 0 < 2 ^ k := Nat.two_pow_pos k
 rw [if_neg (Nat.mul_ne_zero h0 (by omega)), if_neg h0, log2_scale h0]
 by_cases h : n.log2 - fb ≤ c
 ·have e : max (n.log2 + k - fb) (c + k) = c + k := by omega
  have e2 : max (n.log2 - fb) c = c := by omega
  rw [e, e2, re_scale]; simp
 ·have e : max (n.log2 + k - fb) (c + k) = (n.log2 - fb) + k := by omega
  have e2 : max (n.log2 - fb) c = n.log2 - fb := by omega
  rw [e, e2, re_scale, show n.log2 - fb + k - (c + k) = n.log2 - fb - c by omega]
/-- the units of a rung -/
def U (fb c r : Nat) : Nat := if r < 2 ^ fb then r * 2 ^ c else (2 ^ fb + r % 2 ^ fb) * 2 ^ (c + (r / 2 ^ fb - 1))
theorem G_U (fb c r : Nat) : G fb c (U fb c r) = r := by
 have hb : 0 < 2 ^ fb := Nat.two_pow_pos fb
 unfold U
 by_cases h : r < 2 ^ fb
 ·rw [if_pos h]
  have e := G_scale fb 0 r c
  rw [Nat.zero_add] at e
  rw [e]
  unfold G
  by_cases h0 : r = 0
  ·rw [if_pos h0, h0]
  ·have hl : r.log2 < fb := (Nat.log2_lt h0).mpr h
   rw [if_neg h0, show max (r.log2 - fb) 0 = 0 by omega, re_zero]; simp
 ·rw [if_neg h]
  have hm : r % 2 ^ fb < 2 ^ fb := Nat.mod_lt _ hb
  have hq : 1 ≤ r / 2 ^ fb := (Nat.le_div_iff_mul_le hb).mpr (by omega)
  obtain ⟨m, hmm⟩ : ∃ m, 2 ^ fb + r % 2 ^ fb = m := ⟨_, rfl⟩
  obtain ⟨q, hqq⟩ : ∃ q, r / 2 ^ fb - 1 = q := ⟨_, rfl⟩
  rw [hmm, hqq]
  have hm0 : m ≠ 0 := by omega
  have hl : m.log2 = fb := by
   rw [Nat.log2_eq_iff hm0, Nat.pow_succ]
   omega
  unfold G
  have h2 : 0 < 2 ^ (c + q) := Nat.two_pow_pos _
  rw [if_neg (Nat.mul_ne_zero hm0 (by omega)), log2_scale hm0, hl, show max (fb + (c + q) - fb) c = c + q by omega, re_exact, show c + q - c = q by omega]
  have e := Nat.div_add_mod r (2 ^ fb)
  have e2 : (q + 1) * 2 ^ fb = 2 ^ fb * (r / 2 ^ fb) := by rw [show q + 1 = r / 2 ^ fb by omega, Nat.mul_comm]
  rw [Nat.succ_mul] at e2
  omega
theorem U_mono {fb c r s : Nat} (h : r ≤ s) : U fb c r ≤ U fb c s := by
 rcases Nat.lt_or_ge (U fb c s) (U fb c r) with h2 | h2
 ·have := G_mono (fb := fb) (c := c) (Nat.le_of_lt h2)
  rw [G_U, G_U] at this
  have : r = s := by omega
  subst this; omega
 ·exact h2
/-- nearest, by units of 2 ^ P -/
theorem nearest_G (f : Format) (neg : Bool) (mag : Nat) (place P : Int) (h1 : P ≤ place) (h2 : P ≤ f.leastPlace) : f.nearest neg mag place = f.word neg (min (G f.fractionBits (f.leastPlace - P).toNat (mag * 2 ^ (place - P).toNat)) f.infRung) := by
 unfold Format.nearest
 by_cases h0 : mag = 0
 ·subst h0
  rw [if_pos rfl, Nat.zero_mul]
  unfold G
  rw [if_pos rfl, Nat.zero_min]
 ·rw [if_neg h0]
  simp only
  obtain ⟨k, hk⟩ : ∃ k, (place - P).toNat = k := ⟨_, rfl⟩
  obtain ⟨c, hc⟩ : ∃ c, (f.leastPlace - P).toNat = c := ⟨_, rfl⟩
  rw [hk, hc]
  have hkp : 0 < 2 ^ k := Nat.two_pow_pos k
  unfold G
  rw [if_neg (Nat.mul_ne_zero h0 (by omega)), log2_scale h0]
  obtain ⟨last, hlast⟩ : ∃ l, max (place + (mag.log2 : Int) - (f.fractionBits : Int)) f.leastPlace = l := ⟨_, rfl⟩
  rw [hlast]
  have hd : max (mag.log2 + k - f.fractionBits) c = (last - P).toNat := by omega
  rw [hd, cut_re, Nat.shiftLeft_eq]
  have e1 : (last - f.leastPlace).toNat = (last - P).toNat - c := by omega
  rw [e1]
  have e2 : re (mag * 2 ^ (place - last).toNat) (last - place).toNat = re (mag * 2 ^ k) (last - P).toNat := by
   by_cases hp : last ≤ place
   ·have a1 : (last - place).toNat = 0 := by omega
    have a2 : k = (place - last).toNat + (last - P).toNat := by omega
    rw [a1, re_zero, a2, Nat.pow_add, ← Nat.mul_assoc, re_exact]
   ·have a1 : (place - last).toNat = 0 := by omega
    have a2 : (last - P).toNat = (last - place).toNat + k := by omega
    rw [a1, Nat.pow_zero, Nat.mul_one, a2, re_scale]
  rw [e2]
  rfl
end Go.Proofs.Ytjlciehcddanpaa.A
end
section
set_option linter.unusedVariables false
set_option linter.unusedSimpArgs false
namespace Go.Proofs.Ytjlciehcddanpaa.A
open Ieee

/-- what a sign and a rung stand for -/
def rd (f : Format) (neg : Bool) (r : Nat) : Datum :=
 if r < f.binade then .number neg r f.leastPlace
 else if r < f.infRung then .number neg (f.binade + r % f.binade) (f.leastPlace + (r / f.binade - 1 : Nat))
 else if r = f.infRung then .infinity neg
 else .nan neg (r - f.infRung)
theorem sw_pos (f : Format) : 0 < f.signWeight := Nat.two_pow_pos _
theorem read_word (f : Format) (neg : Bool) {r : Nat} (h : r < f.signWeight) : f.read (f.word neg r) = rd f neg r := by
 have hp := sw_pos f
 unfold Format.read Format.word
 cases neg
 ·simp only [Bool.false_eq_true, if_false]
  rw [Nat.div_eq_of_lt h, Nat.mod_eq_of_lt h]
  rfl
 ·simp only [if_true]
  have e1 : (f.signWeight + r) / f.signWeight = 1 := by
   rw [Nat.add_div_left _ hp, Nat.div_eq_of_lt h]
  have e2 : (f.signWeight + r) % f.signWeight = r := by
   rw [Nat.add_mod_left, Nat.mod_eq_of_lt h]
  rw [e1, e2]
  rfl
/-- the place from which the units are counted -/
def P0 : Int := -3000
def cs : Nat := 2851
def cd : Nat := 1926
def kk : Nat := 3000
theorem P0e : P0 = -3000 := rfl
theorem kke : kk = 3000 := rfl
theorem cse : cs = 2851 := rfl
theorem cde : cd = 1926 := rfl
theorem lp_s : single.leastPlace = -149 := by decide
theorem lp_d : double.leastPlace = -1074 := by decide
def fbc (f : Format) : Nat := (f.leastPlace - P0).toNat
theorem fbc_s : fbc single = cs := by unfold fbc; rw [lp_s]; decide
theorem fbc_d : fbc double = cd := by unfold fbc; rw [lp_d]; decide
theorem rd_number (f : Format) (neg : Bool) {r : Nat} (hP : P0 ≤ f.leastPlace) (h : r < f.infRung) : ∃ m p, rd f neg r = .number neg m p ∧ f.leastPlace ≤ p ∧ m * 2 ^ (p - P0).toNat = U f.fractionBits (fbc f) r ∧ m < 2 ^ (f.fractionBits + 1) := by
 unfold rd U fbc
 have hbp : 0 < f.binade := Nat.two_pow_pos _
 by_cases c : r < f.binade
 ·refine ⟨r, f.leastPlace, by rw [if_pos c], Int.le_refl _, ?_, ?_⟩
  ·unfold Format.binade at c
   rw [if_pos c]
  ·unfold Format.binade at c
   rw [Nat.pow_succ]; omega
 ·have hm := Nat.mod_lt r hbp
  refine ⟨f.binade + r % f.binade, f.leastPlace + (r / f.binade - 1 : Nat), by rw [if_neg c, if_pos h], by omega, ?_, ?_⟩
  ·unfold Format.binade at *
   rw [if_neg c]
   have : (f.leastPlace + (r / 2 ^ f.fractionBits - 1 : Nat) - P0).toNat = (f.leastPlace - P0).toNat + (r / 2 ^ f.fractionBits - 1) := by omega
   rw [this]
  ·unfold Format.binade at *
   rw [Nat.pow_succ]; omega
theorem bi_s : single.binade ≤ single.infRung := by decide
theorem bi_d : double.binade ≤ double.infRung := by decide
theorem rd_inf (f : Format) (hb : f.binade ≤ f.infRung) (neg : Bool) : rd f neg f.infRung = .infinity neg := by
 unfold rd
 rw [if_neg (by omega), if_neg (by omega), if_pos rfl]
theorem rd_nan (f : Format) (neg : Bool) {r : Nat} (hb : f.binade ≤ f.infRung) (h : f.infRung < r) : rd f neg r = .nan neg (r - f.infRung) := by
 unfold rd
 rw [if_neg (by omega), if_neg (by omega), if_neg (by omega)]
/-- each word is one of a sign and a rung -/
theorem word_of (f : Format) {x : Nat} (h : x < 2 ^ f.width) : ∃ neg r, r < f.signWeight ∧ x = f.word neg r := by
 have two : 2 ^ f.width = 2 * f.signWeight := by
  unfold Format.width Format.signWeight
  rw [Nat.add_assoc, Nat.add_comm 1, Nat.pow_succ, Nat.mul_comm]
 unfold Format.word
 by_cases c : x < f.signWeight
 ·exact ⟨false, x, c, by simp⟩
 ·exact ⟨true, x - f.signWeight, by omega, by simp; omega⟩
/-- the signed units -/
def sg (neg : Bool) (n : Nat) : Int := if neg then -(n : Int) else n
theorem signed_sg (neg : Bool) (m k : Nat) : signed neg m k = sg neg (m * 2 ^ k) := by
 unfold signed sg
 rw [Nat.shiftLeft_eq]
theorem sg_natAbs (neg : Bool) (n : Nat) : (sg neg n).natAbs = n := by
 unfold sg; split <;> omega

theorem sg_mul (neg : Bool) (a b : Nat) : sg neg (a * b) = sg neg a * (b : Int) := by
 unfold sg
 split
 ·rw [Int.natCast_mul, Int.neg_mul]
 ·rw [Int.natCast_mul]
/-- a number written, by units -/
theorem write_number (f : Format) (hP : P0 ≤ f.leastPlace) (neg : Bool) (m : Nat) (p : Int) (h : P0 ≤ p) : f.write (.number neg m p) = f.word neg (min (G f.fractionBits (fbc f) (m * 2 ^ (p - P0).toNat)) f.infRung) := nearest_G f neg m p P0 h hP
theorem pow_split (a b : Int) (h1 : P0 ≤ b) (h2 : b ≤ a) : 2 ^ (a - P0).toNat = 2 ^ (a - b).toNat * 2 ^ (b - P0).toNat := by
 rw [← Nat.pow_add]
 congr 1
 omega
/-- the sum of two finite words -/
theorem add_word (f : Format) (hP : P0 ≤ f.leastPlace) (hb : f.infRung < f.signWeight) (a b : Bool) {r s : Nat} (hr : r < f.infRung) (hs : s < f.infRung) (Z : Int)
    (hZ : sg a (U f.fractionBits (fbc f) r) + sg b (U f.fractionBits (fbc f) s) = Z) :
    f.add (f.word a r) (f.word b s) = some (f.word (if Z = 0 then a && b else decide (Z < 0)) (min (G f.fractionBits (fbc f) Z.natAbs) f.infRung)) := by
 unfold Format.add
 rw [read_word f a (by omega), read_word f b (by omega)]
 obtain ⟨m, i, e1, h1, u1, _⟩ := rd_number f a hP hr
 obtain ⟨n, j, e2, h2, u2, _⟩ := rd_number f b hP hs
 rw [e1, e2]
 unfold Datum.sum
 simp only [Option.map_some]
 obtain ⟨g, hg⟩ : ∃ g, min i j = g := ⟨_, rfl⟩
 rw [hg]
 have hg0 : P0 ≤ g := by omega
 obtain ⟨T, hT⟩ : ∃ T, signed a m (i - g).toNat + signed b n (j - g).toNat = T := ⟨_, rfl⟩
 rw [hT]
 have hk : 0 < 2 ^ (g - P0).toNat := Nat.two_pow_pos _
 have hZT : Z = T * ((2 ^ (g - P0).toNat : Nat) : Int) := by
  rw [← hZ, ← hT, signed_sg, signed_sg, ← u1, ← u2, Int.add_mul, ← sg_mul, ← sg_mul, Nat.mul_assoc, Nat.mul_assoc, ← pow_split i g hg0 (by omega), ← pow_split j g hg0 (by omega)]
 rw [write_number f hP _ _ _ hg0]
 have e3 : T.natAbs * 2 ^ (g - P0).toNat = Z.natAbs := by rw [hZT, Int.natAbs_mul]; rfl
 rw [e3]
 have e4 : (T = 0) ↔ (Z = 0) := by
  rw [hZT]
  constructor
  ·intro h; rw [h]; simp
  ·intro h
   rcases Int.mul_eq_zero.mp h with h | h
   ·exact h
   ·omega
 have e5 : (T < 0) ↔ (Z < 0) := by
  rw [hZT]
  constructor
  ·intro h; exact Int.mul_neg_of_neg_of_pos h (by omega)
  ·intro h
   rcases (show T < 0 ∨ 0 ≤ T by omega) with c | c
   ·exact c
   ·have := Int.mul_nonneg c (show (0 : Int) ≤ ((2 ^ (g - P0).toNat : Nat) : Int) by omega)
    omega
 simp only [e4, e5]
end Go.Proofs.Ytjlciehcddanpaa.A
end
section
set_option linter.unusedVariables false
set_option linter.unusedSimpArgs false
namespace Go.Proofs.Ytjlciehcddanpaa.A
open Ieee

theorem U_norm (fb c k f : Nat) (hf : f < 2 ^ fb) : U fb c ((k + 1) * 2 ^ fb + f) = (2 ^ fb + f) * 2 ^ (c + k) := by
 have hb : 0 < 2 ^ fb := Nat.two_pow_pos fb
 unfold U
 have e1 : ((k + 1) * 2 ^ fb + f) / 2 ^ fb = k + 1 := by
  rw [Nat.add_comm, Nat.add_mul_div_right _ _ hb, Nat.div_eq_of_lt hf]; omega
 have e2 : ((k + 1) * 2 ^ fb + f) % 2 ^ fb = f := by
  rw [Nat.add_comm, Nat.add_mul_mod_self_right, Nat.mod_eq_of_lt hf]
 rw [if_neg (by rw [Nat.succ_mul]; omega), e1, e2]
 congr 2
/-- what a rung of the format stands for -/
theorem U_rep (fb c : Nat) {m e : Nat} (hm : m < 2 ^ (fb + 1)) (he : c ≤ e) : ∃ r, U fb c r = m * 2 ^ e := by
 by_cases h0 : m = 0
 ·refine ⟨0, ?_⟩
  subst h0
  unfold U
  rw [if_pos (Nat.two_pow_pos fb)]; omega
 have hl : m.log2 ≤ fb := by
  have := (Nat.log2_lt h0).mpr hm
  omega
 have key : ∀ n d, m = n → m.log2 + d ≤ fb → (m.log2 + d = fb ∨ c + d = e) → c + d ≤ e → ∃ r, U fb c r = m * 2 ^ e := by
  intro n d _ h1 h2 h3
  have hm2 : m * 2 ^ e = (m * 2 ^ d) * 2 ^ (e - d) := by
   rw [Nat.mul_assoc, ← Nat.pow_add]; congr 2; omega
  obtain ⟨x, hx⟩ : ∃ x, m * 2 ^ d = x := ⟨_, rfl⟩
  have hx0 : x ≠ 0 := by rw [← hx]; exact Nat.mul_ne_zero h0 (by have := Nat.two_pow_pos d; omega)
  have hxl : x.log2 = m.log2 + d := by rw [← hx, log2_scale h0]
  rw [hm2, hx]
  have hx1 : x < 2 ^ (fb + 1) := (Nat.log2_lt hx0).mp (by omega)
  by_cases hc : x < 2 ^ fb
  ·have : x.log2 < fb := (Nat.log2_lt hx0).mpr hc
   refine ⟨x, ?_⟩
   unfold U
   rw [if_pos hc]
   congr 2; omega
  ·refine ⟨(e - d - c + 1) * 2 ^ fb + (x - 2 ^ fb), ?_⟩
   rw [Nat.pow_succ] at hx1
   rw [U_norm fb c _ _ (by omega)]
   congr 1
   ·omega
   ·congr 1; omega
 by_cases h : fb - m.log2 ≤ e - c
 ·exact key m (fb - m.log2) rfl (by omega) (by omega) (by omega)
 ·exact key m (e - c) rfl (by omega) (by omega) (by omega)
/-- rounded to the format, by units -/
def R (fb c n : Nat) : Nat := U fb c (G fb c n)
theorem R_mono {fb c n m : Nat} (h : n ≤ m) : R fb c n ≤ R fb c m := U_mono (G_mono h)
theorem R_U (fb c r : Nat) : R fb c (U fb c r) = U fb c r := by unfold R; rw [G_U]
theorem R_rep (fb c : Nat) {m e : Nat} (hm : m < 2 ^ (fb + 1)) (he : c ≤ e) : R fb c (m * 2 ^ e) = m * 2 ^ e := by
 obtain ⟨r, hr⟩ := U_rep fb c hm he
 rw [← hr, R_U]
theorem G_le {fb c n r : Nat} (h : n ≤ U fb c r) : G fb c n ≤ r := by
 have := G_mono (fb := fb) (c := c) h
 rwa [G_U] at this
theorem U_0 (fb c : Nat) : U fb c 0 = 0 := by
 unfold U; rw [if_pos (Nat.two_pow_pos fb)]; omega
/-- far below infinity -/
def be : Nat := 3948
theorem bee : be = 3948 := rfl
theorem Gd_lt {n : Nat} (h : n ≤ 2 ^ 52 * 2 ^ be) : G 52 cd n < double.infRung := by
 have hf : (0 : Nat) < 2 ^ 52 := Nat.two_pow_pos 52
 have e := U_norm 52 cd (be - cd) 0 hf
 rw [Nat.add_zero, show cd + (be - cd) = be by rw [cde, bee]] at e
 rw [← Nat.add_zero (2 ^ 52), ← e] at h
 refine Nat.lt_of_le_of_lt (G_le h) ?_
 rw [cde, bee]
 decide
/-- the greatest sample -/
def Mx : Nat := U 23 cs (single.infRung - 1)
def me : Nat := 3104
theorem mee : me = 3104 := rfl
theorem Mx_eq : Mx = (2 ^ 24 - 1) * 2 ^ me := by
 unfold Mx
 have e := U_norm 23 cs 253 (2 ^ 23 - 1) (by decide)
 rw [show single.infRung - 1 = (253 + 1) * 2 ^ 23 + (2 ^ 23 - 1) by decide, e, show cs + 253 = me by rw [cse, mee], show 2 ^ 23 + (2 ^ 23 - 1) = 2 ^ 24 - 1 by decide]
theorem U_le_Mx {r : Nat} (h : r < single.infRung) : U 23 cs r ≤ Mx := U_mono (by omega)
theorem sMx_rep (S : Nat) (h : S < 2 ^ 29) : R 52 cd (S * Mx) = S * Mx := by
 rw [Mx_eq, ← Nat.mul_assoc]
 refine R_rep 52 cd ?_ (by rw [cde, mee]; omega)
 have : S * (2 ^ 24 - 1) ≤ (2 ^ 29 - 1) * (2 ^ 24 - 1) := Nat.mul_le_mul_right _ (by omega)
 exact Nat.lt_of_le_of_lt this (by decide)
theorem sMx_lt (S : Nat) (h : S ≤ 16) {n : Nat} (hn : n ≤ S * Mx) : n ≤ 2 ^ 52 * 2 ^ be := by
 refine Nat.le_trans hn ?_
 rw [Mx_eq, ← Nat.mul_assoc]
 have h1 : S * (2 ^ 24 - 1) ≤ 2 ^ 52 := Nat.le_trans (Nat.mul_le_mul_right _ h) (by decide)
 exact Nat.mul_le_mul h1 (Nat.pow_le_pow_right (by decide) (by rw [mee, bee]; omega))
end Go.Proofs.Ytjlciehcddanpaa.A
end
section
set_option linter.unusedVariables false
set_option linter.unusedSimpArgs false
namespace Go.Proofs.Ytjlciehcddanpaa.A
open Ieee

theorem hPs : P0 ≤ single.leastPlace := by rw [lp_s, P0e]; decide
theorem hPd : P0 ≤ double.leastPlace := by rw [lp_d, P0e]; decide
theorem ils : single.infRung < single.signWeight := single.infRung_lt
theorem ild : double.infRung < double.signWeight := double.infRung_lt
theorem read_fin (f : Format) (hP : P0 ≤ f.leastPlace) (a : Bool) {r : Nat} (h : r < f.infRung) : ∃ m p, f.read (f.word a r) = .number a m p ∧ f.leastPlace ≤ p ∧ m * 2 ^ (p - P0).toNat = U f.fractionBits (fbc f) r ∧ m < 2 ^ (f.fractionBits + 1) := by
 have := f.infRung_lt
 rw [read_word f a (by omega)]
 exact rd_number f a hP h
theorem read_inf_d (a : Bool) : double.read (double.word a double.infRung) = .infinity a := by
 have := ild
 rw [read_word double a (by omega), rd_inf double bi_d]
theorem read_inf_s (a : Bool) : single.read (single.word a single.infRung) = .infinity a := by
 have := ils
 rw [read_word single a (by omega), rd_inf single bi_s]
theorem read_nan (f : Format) (hb : f.binade ≤ f.infRung) (a : Bool) {r : Nat} (h : f.infRung < r) (h2 : r < f.signWeight) : f.read (f.word a r) = .nan a (r - f.infRung) := by
 rw [read_word f a h2, rd_nan f a hb h]
/-- a sample's value as a double -/
theorem cvt_fin (a : Bool) {r : Nat} (h : r < single.infRung) : floatToFloatBits .f32 (single.word a r) .f64 = some (double.word a (G 52 cd (U 23 cs r))) ∧ U 52 cd (G 52 cd (U 23 cs r)) = U 23 cs r ∧ G 52 cd (U 23 cs r) < double.infRung := by
 obtain ⟨m, p, e1, h1, u1, hm⟩ := read_fin single hPs a h
 rw [fbc_s] at u1
 change m * 2 ^ (p - P0).toNat = U 23 cs r at u1
 change m < 2 ^ 24 at hm
 rw [lp_s] at h1
 have hlt : G 52 cd (U 23 cs r) < double.infRung := by
  refine Gd_lt (sMx_lt 1 (by decide) ?_)
  rw [Nat.one_mul]
  exact U_le_Mx h
 have hex : U 52 cd (G 52 cd (U 23 cs r)) = U 23 cs r := by
  rw [← u1]
  exact R_rep 52 cd (Nat.lt_of_lt_of_le hm (Nat.pow_le_pow_right (by decide) (by decide))) (by rw [cde]; have := P0e; omega)
 refine ⟨?_, hex, hlt⟩
 unfold floatToFloatBits
 rw [if_neg (by decide)]
 have e2 : FloatKind.decode .f32 (single.word a r) = .number a m p := e1
 rw [e2]
 simp only []
 have e3 : FloatKind.encode .f64 (.number a m p) = double.word a (G 52 cd (U 23 cs r)) := by
  change double.write (.number a m p) = _
  rw [write_number double hPd a m p (by have := P0e; omega), fbc_d]
  change double.word a (min (G 52 cd (m * 2 ^ (p - P0).toNat)) double.infRung) = _
  rw [u1, Nat.min_eq_left (by omega)]
 rw [e3]
 obtain ⟨m2, p2, e4, _⟩ := read_fin double hPd a hlt
 have e5 : FloatKind.decode .f64 (double.word a (G 52 cd (U 23 cs r))) = .number a m2 p2 := e4
 rw [e5]
 rfl
theorem cvt_inf (a : Bool) : floatToFloatBits .f32 (single.word a single.infRung) .f64 = some (double.word a double.infRung) := by
 unfold floatToFloatBits
 rw [if_neg (by decide)]
 have e2 : FloatKind.decode .f32 (single.word a single.infRung) = .infinity a := read_inf_s a
 rw [e2]
 rfl
theorem cvt_nan (a : Bool) {r : Nat} (h : single.infRung < r) (h2 : r < single.signWeight) : floatToFloatBits .f32 (single.word a r) .f64 = none := by
 unfold floatToFloatBits
 rw [if_neg (by decide)]
 have e2 : FloatKind.decode .f32 (single.word a r) = .nan a (r - single.infRung) := read_nan single bi_s a h h2
 rw [e2]
/-- a double as a sample -/
theorem back_fin (a : Bool) {r : Nat} (hr : r < double.infRung) (h : U 52 cd r ≤ Mx) : floatToFloatBits .f64 (double.word a r) .f32 = some (single.word a (G 23 cs (U 52 cd r))) ∧ G 23 cs (U 52 cd r) < single.infRung := by
 have hlt : G 23 cs (U 52 cd r) < single.infRung := by
  have h1 : G 23 cs (U 52 cd r) ≤ single.infRung - 1 := G_le h
  have h2 : 0 < single.infRung := by decide
  omega
 refine ⟨?_, hlt⟩
 obtain ⟨m, p, e1, h1, u1, hm⟩ := read_fin double hPd a hr
 rw [fbc_d] at u1
 change m * 2 ^ (p - P0).toNat = U 52 cd r at u1
 rw [lp_d] at h1
 unfold floatToFloatBits
 rw [if_neg (by decide)]
 have e2 : FloatKind.decode .f64 (double.word a r) = .number a m p := e1
 rw [e2]
 simp only []
 have e3 : FloatKind.encode .f32 (.number a m p) = single.word a (G 23 cs (U 52 cd r)) := by
  change single.write (.number a m p) = _
  rw [write_number single hPs a m p (by have := P0e; omega), fbc_s]
  change single.word a (min (G 23 cs (m * 2 ^ (p - P0).toNat)) single.infRung) = _
  rw [u1, Nat.min_eq_left (by omega)]
 rw [e3]
 obtain ⟨m2, p2, e4, _⟩ := read_fin single hPs a hlt
 have e5 : FloatKind.decode .f32 (single.word a (G 23 cs (U 52 cd r))) = .number a m2 p2 := e4
 rw [e5]
 rfl
theorem back_inf (a : Bool) : floatToFloatBits .f64 (double.word a double.infRung) .f32 = some (single.word a single.infRung) := by
 unfold floatToFloatBits
 rw [if_neg (by decide)]
 have e2 : FloatKind.decode .f64 (double.word a double.infRung) = .infinity a := read_inf_d a
 rw [e2]
 rfl
end Go.Proofs.Ytjlciehcddanpaa.A
end
section
set_option linter.unusedVariables false
set_option linter.unusedSimpArgs false
namespace Go.Proofs.Ytjlciehcddanpaa.A
open Ieee

/-- a finite double of a sign and so many units -/
def Fv (a : Bool) (n : Nat) (o : Option Nat) : Prop := ∃ r, o = some (double.word a r) ∧ r < double.infRung ∧ U 52 cd r = n
/-- a small whole number as a double -/
theorem int_word (n : Nat) (h : n ≤ 2 ^ 52) : ∃ s, floatOfInt .f64 (n : Int) = double.word false s ∧ s < double.infRung ∧ U 52 cd s = n * 2 ^ kk := by
 have h1 : n * 2 ^ kk ≤ 2 ^ 52 * 2 ^ be := Nat.mul_le_mul h (Nat.pow_le_pow_right (by decide) (by rw [kke, bee]; omega))
 refine ⟨G 52 cd (n * 2 ^ kk), ?_, Gd_lt h1, ?_⟩
 ·have e : floatOfInt .f64 (n : Int) = double.write (.number (decide ((n : Int) < 0)) (n : Int).natAbs 0) := rfl
  rw [e, write_number double hPd _ _ _ (by rw [P0e]; decide), fbc_d]
  have e2 : decide ((n : Int) < 0) = false := by simp
  rw [e2, show ((0 : Int) - P0).toNat = kk by rfl]
  change double.word false (min (G 52 cd (n * 2 ^ kk)) double.infRung) = _
  rw [Nat.min_eq_left (Nat.le_of_lt (Gd_lt h1))]
 ·exact R_rep 52 cd (Nat.lt_of_le_of_lt h (by decide)) (by rw [cde, kke]; omega)
/-- a sample's value -/
def wv (s : Nat) : Option Nat := floatToFloatBits .f32 s .f64
theorem U23_rep (n r : Nat) (hn : n ≤ 2 ^ 28) : R 52 cd (n * U 23 cs r) = n * U 23 cs r := by
 by_cases c : r < 2 ^ 23
 ·unfold U
  rw [if_pos c, ← Nat.mul_assoc]
  refine R_rep 52 cd ?_ (by rw [cde, cse]; omega)
  refine Nat.lt_of_le_of_lt (Nat.mul_le_mul hn (Nat.le_of_lt c)) (by decide)
 ·unfold U
  rw [if_neg c, ← Nat.mul_assoc]
  have hm : r % 2 ^ 23 < 2 ^ 23 := Nat.mod_lt _ (Nat.two_pow_pos 23)
  refine R_rep 52 cd ?_ (by rw [cde, cse]; omega)
  refine Nat.lt_of_le_of_lt (Nat.mul_le_mul hn (show 2 ^ 23 + r % 2 ^ 23 ≤ 2 ^ 24 by omega)) (by decide)
/-- rounded, signs and all -/
def Rz (Z : Int) : Int := sg (decide (Z < 0)) (R 52 cd Z.natAbs)
theorem R_0 (fb c : Nat) : R fb c 0 = 0 := by
 unfold R G; rw [if_pos rfl, U_0]
theorem add_fin {a b : Bool} {m n : Nat} {x y : Nat} (S : Nat) (hS : S ≤ 16) (hx : Fv a m (some x)) (hy : Fv b n (some y)) (hb : m + n ≤ S * Mx) :
    ∃ c k, Fv c k (floatBits .add .f64 x y) ∧ sg c k = Rz (sg a m + sg b n) ∧ k ≤ S * Mx ∧ (a = b → c = a ∧ k = R 52 cd (m + n)) := by
 obtain ⟨r, e1, hr, u1⟩ := hx
 obtain ⟨s, e2, hs, u2⟩ := hy
 obtain rfl := Option.some.inj e1
 obtain rfl := Option.some.inj e2
 have e3 : floatBits .add .f64 (double.word a r) (double.word b s) = double.add (double.word a r) (double.word b s) := rfl
 rw [e3, add_word double hPd ild a b hr hs _ rfl, fbc_d]
 change ∃ c k, Fv c k (some (double.word (if sg a (U 52 cd r) + sg b (U 52 cd s) = 0 then a && b else decide (sg a (U 52 cd r) + sg b (U 52 cd s) < 0)) (min (G 52 cd (sg a (U 52 cd r) + sg b (U 52 cd s)).natAbs) double.infRung))) ∧ _
 rw [u1, u2]
 obtain ⟨Z, hZ⟩ : ∃ Z, sg a m + sg b n = Z := ⟨_, rfl⟩
 rw [hZ]
 have hab : Z.natAbs ≤ m + n := by rw [← hZ]; unfold sg; split <;> split <;> omega
 have hlt : G 52 cd Z.natAbs < double.infRung := Gd_lt (sMx_lt S hS (by omega))
 rw [Nat.min_eq_left (by omega)]
 refine ⟨_, R 52 cd Z.natAbs, ⟨_, rfl, hlt, rfl⟩, ?_, ?_, ?_⟩
 ·unfold Rz
  by_cases c : Z = 0
  ·rw [c]; simp only [if_true]
   rw [show (0 : Int).natAbs = 0 from rfl, R_0]; unfold sg; split <;> split <;> rfl
  ·rw [if_neg c]
 ·have := R_mono (fb := 52) (c := cd) (Nat.le_trans hab hb)
  rwa [sMx_rep S (by omega)] at this
 ·intro hEq
  subst hEq
  have e5 : Z.natAbs = m + n := by rw [← hZ]; unfold sg; split <;> omega
  refine ⟨?_, by rw [e5]⟩
  unfold sg at hZ
  by_cases c : Z = 0
  ·rw [if_pos c]; cases a <;> rfl
  ·rw [if_neg c]
   cases a
   ·simp at hZ ⊢; omega
   ·simp at hZ ⊢; omega
end Go.Proofs.Ytjlciehcddanpaa.A
end
section
set_option linter.unusedVariables false
set_option linter.unusedSimpArgs false
namespace Go.Proofs.Ytjlciehcddanpaa.A
open Ieee

def made : Nat := 0x7FC00000
/-- is the sample a NaN? -/
def isnan (s : Nat) : Bool := decide (s / 2 ^ 23 % 256 = 255) && decide (s % 2 ^ 23 ≠ 0)
theorem isw : single.infRung = 255 * 2 ^ 23 := by decide
theorem sww : single.signWeight = 2 ^ 31 := by decide
theorem isnan_word (a : Bool) {r : Nat} (h : r ≤ single.infRung) : isnan (single.word a r) = false ∧ single.word a r < 2 ^ 32 := by
 rw [isw] at h
 unfold isnan Format.word
 rw [sww]
 have h31 : (2 : Nat) ^ 31 = 2147483648 := by decide
 have h23 : (2 : Nat) ^ 23 = 8388608 := by decide
 have h32 : (2 : Nat) ^ 32 = 4294967296 := by decide
 rw [h23] at h
 rw [h31, h23, h32]
 rw [Bool.and_eq_false_iff]
 simp only [decide_eq_false_iff_not]
 cases a
 ·simp only [Bool.false_eq_true, if_false]; omega
 ·simp only [if_true]; omega
theorem isnan_nan (a : Bool) {r : Nat} (h : single.infRung < r) (h2 : r < single.signWeight) : isnan (single.word a r) = true := by
 rw [isw] at h
 rw [sww] at h2
 unfold isnan Format.word
 rw [sww]
 have h31 : (2 : Nat) ^ 31 = 2147483648 := by decide
 have h23 : (2 : Nat) ^ 23 = 8388608 := by decide
 rw [h23] at h
 rw [h31] at h2
 rw [h31, h23]
 simp only [Bool.and_eq_true, decide_eq_true_eq]
 cases a
 ·simp only [Bool.false_eq_true, if_false]; omega
 ·simp only [if_true]; omega
end Go.Proofs.Ytjlciehcddanpaa.A
end
section
set_option linter.unusedVariables false
set_option linter.unusedSimpArgs false
namespace Go.Proofs.Ytjlciehcddanpaa.A
open Ieee

/-- a finite sample of so many units -/
def F32 (s : Nat) (z : Int) : Prop := ∃ a r, s = single.word a r ∧ r < single.infRung ∧ sg a (U 23 cs r) = z
theorem sg_smul (a : Bool) (n m : Nat) : sg a (n * m) = (n : Int) * sg a m := by
 unfold sg
 cases a <;> simp [Int.mul_neg]
end Go.Proofs.Ytjlciehcddanpaa.A
end
section
set_option linter.unusedVariables false
set_option linter.unusedSimpArgs false
namespace Go.Proofs.Ytjlciehcddanpaa.A
open Ieee

theorem pow_mix {m k a b c d : Nat} (h : a + b = c + d) : m * k * 2 ^ a * 2 ^ b = (m * 2 ^ c) * (k * 2 ^ d) := by
 rw [Nat.mul_assoc (m * k), ← Nat.pow_add, h, Nat.pow_add, Nat.mul_mul_mul_comm]
/-- a product, by units -/
theorem mul_gen (a b : Bool) {r s N : Nat} (hr : r < double.infRung) (hs : s < double.infRung) (hN : N * 2 ^ kk = U 52 cd r * U 52 cd s) :
    double.mul (double.word a r) (double.word b s) = some (double.word (a ^^ b) (min (G 52 cd N) double.infRung)) := by
 have hP : P0 ≤ double.leastPlace := by rw [lp_d]; decide
 have hb : double.infRung < double.signWeight := double.infRung_lt
 unfold Format.mul
 rw [read_word double a (by omega), read_word double b (by omega)]
 obtain ⟨m, i, e1, h1, u1, _⟩ := rd_number double a hP hr
 obtain ⟨k, j, e2, h2, u2, _⟩ := rd_number double b hP hs
 have hi : -1074 ≤ i := by rw [lp_d] at h1; exact h1
 have hj : -1074 ≤ j := by rw [lp_d] at h2; exact h2
 rw [e1, e2]
 unfold Datum.product
 simp only [Option.map_some]
 have hP0 := P0e
 have hkk := kke
 rw [write_number double hP _ _ _ (by omega)]
 rw [fbc_d] at u1 u2
 change m * 2 ^ (i - P0).toNat = U 52 cd r at u1
 change k * 2 ^ (j - P0).toNat = U 52 cd s at u2
 have e3 : m * k * 2 ^ (i + j - P0).toNat = N := by
  have h3 : 0 < 2 ^ kk := Nat.two_pow_pos _
  refine Nat.eq_of_mul_eq_mul_right h3 ?_
  rw [hN, ← u1, ← u2]
  exact pow_mix (by omega)
 rw [e3, fbc_d]
 rfl
theorem mul_fin {a b : Bool} {m n N : Nat} {x y : Nat} (hx : Fv a m (some x)) (hy : Fv b n (some y)) (hN : N * 2 ^ kk = m * n) (hB : N ≤ 2 ^ 52 * 2 ^ be) : Fv (a ^^ b) (R 52 cd N) (floatBits .mul .f64 x y) := by
 obtain ⟨r, e1, hr, u1⟩ := hx
 obtain ⟨s, e2, hs, u2⟩ := hy
 obtain rfl := Option.some.inj e1
 obtain rfl := Option.some.inj e2
 have e3 : floatBits .mul .f64 (double.word a r) (double.word b s) = double.mul (double.word a r) (double.word b s) := rfl
 have hlt := Gd_lt hB
 rw [e3, mul_gen a b hr hs (N := N) (by rw [u1, u2]; exact hN), Nat.min_eq_left (by omega)]
 exact ⟨_, rfl, hlt, rfl⟩
end Go.Proofs.Ytjlciehcddanpaa.A
end
section
set_option linter.unusedVariables false
set_option linter.unusedSimpArgs false
namespace Go.Proofs.Ytjlciehcddanpaa.A
open Ieee

theorem cmp_if (x y : Int) : compare x y = if x < y then Ordering.lt else if x = y then .eq else .gt := rfl
theorem cmp_smul (k : Nat) (hk : 0 < k) (x y : Int) : compare ((k : Int) * x) ((k : Int) * y) = compare x y := by
 have hk' : (0 : Int) < (k : Int) := by omega
 have h1 : ((k : Int) * x < (k : Int) * y) ↔ x < y := Int.mul_lt_mul_left hk'
 have h2 : ((k : Int) * x = (k : Int) * y) ↔ x = y := ⟨fun h => Int.eq_of_mul_eq_mul_left (by omega) h, fun h => by rw [h]⟩
 rw [cmp_if, cmp_if]
 simp only [h1, h2]
theorem sg_scale (a : Bool) (m j k : Nat) (h : k ≤ j) : sg a (m * 2 ^ j) = ((2 ^ (j - k) : Nat) : Int) * sg a (m * 2 ^ k) := by
 rw [← sg_smul, show 2 ^ (j - k) * (m * 2 ^ k) = m * 2 ^ j from by rw [Nat.mul_comm, Nat.mul_assoc, ← Nat.pow_add, Nat.add_sub_cancel' h]]
theorem U_lt (fb c : Nat) {r q : Nat} : U fb c r < U fb c q ↔ r < q := by
 constructor
 ·intro h
  rcases Nat.lt_or_ge r q with h1 | h1
  ·exact h1
  ·have := U_mono (fb := fb) (c := c) h1; omega
 ·intro h
  have h1 := U_mono (fb := fb) (c := c) (Nat.le_of_lt h)
  rcases Nat.lt_or_ge (U fb c r) (U fb c q) with h2 | h2
  ·exact h2
  ·have h3 : U fb c r = U fb c q := by omega
   have h4 := G_U fb c r
   rw [h3, G_U] at h4
   omega
theorem cmp_U (fb c : Nat) (a b : Bool) (r q : Nat) : compare (sg a (U fb c r)) (sg b (U fb c q)) = compare (sg a r) (sg b q) := by
 have h1 := @U_lt fb c r q
 have h2 := @U_lt fb c q r
 have z1 := @U_lt fb c 0 r
 have z2 := @U_lt fb c 0 q
 rw [U_0] at z1 z2
 rw [cmp_if, cmp_if]
 unfold sg
 cases a <;> cases b <;> simp only [Bool.false_eq_true, if_true, if_false]
 all_goals
  repeat' split
  all_goals first | rfl | omega
/-- a sample's place by value -/
def pz (s : Nat) : Int := if s < 2147483648 then (s : Int) else 2147483648 - (s : Int)
theorem pz_word (a : Bool) {r : Nat} (h : r < single.signWeight) : pz (single.word a r) = sg a r := by
 rw [sww] at h
 have h31 : (2 : Nat) ^ 31 = 2147483648 := by decide
 rw [h31] at h
 unfold pz Format.word sg
 rw [sww, h31]
 cases a
 ·simp only [Bool.false_eq_true, if_false]; rw [if_pos h]
 ·simp only [if_true]; rw [if_neg (by omega)]; omega
theorem ord_word (a b : Bool) {r q : Nat} (hr : r ≤ single.infRung) (hq : q ≤ single.infRung) : single.order (single.word a r) (single.word b q) = some (compare (sg a r) (sg b q)) := by
 unfold Format.order
 rcases Nat.lt_or_eq_of_le hr with h1 | h1
 ·obtain ⟨m, p, e1, l1, u1, _⟩ := read_fin single hPs a h1
  rw [fbc_s] at u1
  have u1 : m * 2 ^ (p - P0).toNat = U 23 cs r := u1
  rcases Nat.lt_or_eq_of_le hq with h2 | h2
  ·obtain ⟨n, o, e2, l2, u2, _⟩ := read_fin single hPs b h2
   rw [fbc_s] at u2
   have u2 : n * 2 ^ (o - P0).toNat = U 23 cs q := u2
   rw [e1, e2]
   show some (compare (signed a m (p - min p o).toNat) (signed b n (o - min p o).toNat)) = _
   have hb : P0 ≤ min p o := by have := hPs; omega
   have e3 : (p - P0).toNat - (p - min p o).toNat = (min p o - P0).toNat := by omega
   have e4 : (o - P0).toNat - (o - min p o).toNat = (min p o - P0).toNat := by omega
   rw [← cmp_U 23 cs, signed_sg, signed_sg, ← u1, ← u2, sg_scale a m (p - P0).toNat (p - min p o).toNat (by omega), sg_scale b n (o - P0).toNat (o - min p o).toNat (by omega), e3, e4, cmp_smul _ (Nat.two_pow_pos _)]
  ·subst h2
   rw [e1, read_inf_s]
   show some (if b then Ordering.gt else .lt) = _
   rw [cmp_if]
   unfold sg
   cases a <;> cases b <;> simp only [Bool.false_eq_true, if_true, if_false]
   all_goals
    repeat' split
    all_goals first | rfl | omega
 ·subst h1
  rw [read_inf_s]
  rcases Nat.lt_or_eq_of_le hq with h2 | h2
  ·obtain ⟨n, o, e2, _⟩ := read_fin single hPs b h2
   rw [e2]
   show some (if a then Ordering.lt else .gt) = _
   rw [cmp_if]
   unfold sg
   cases a <;> cases b <;> simp only [Bool.false_eq_true, if_true, if_false]
   all_goals
    repeat' split
    all_goals first | rfl | omega
  ·subst h2
   rw [read_inf_s]
   cases a <;> cases b <;> decide
/-- the same by value -/
def eqv (a b : Nat) : Bool := !isnan a && !isnan b && decide (pz a = pz b)
theorem ord_s {a b : Nat} (ha : a < 4294967296) (hb : b < 4294967296) : single.order a b = if isnan a = true ∨ isnan b = true then none else some (compare (pz a) (pz b)) := by
 obtain ⟨na, r, hr, rfl⟩ := word_of single (x := a) ha
 obtain ⟨nb, q, hq, rfl⟩ := word_of single (x := b) hb
 rw [pz_word na hr, pz_word nb hq]
 rcases Nat.lt_or_ge single.infRung r with h1 | h1
 ·rw [if_pos (.inl (isnan_nan na h1 hr))]
  unfold Format.order
  rw [read_nan single bi_s na h1 hr]
  cases single.read (single.word nb q) <;> rfl
 ·rcases Nat.lt_or_ge single.infRung q with h2 | h2
  ·rw [if_pos (.inr (isnan_nan nb h2 hq))]
   unfold Format.order
   rw [read_nan single bi_s nb h2 hq]
   cases single.read (single.word na r) <;> rfl
  ·rw [if_neg (by rw [(isnan_word na h1).1, (isnan_word nb h2).1]; decide)]
   exact ord_word na nb h1 h2
theorem eq_ord {a b : Nat} (ha : a < 4294967296) (hb : b < 4294967296) : (FloatKind.f32.format.order a b == some .eq) = eqv a b := by
 have e : FloatKind.f32.format.order a b = single.order a b := rfl
 rw [e, ord_s ha hb]
 unfold eqv
 cases isnan a <;> cases isnan b <;> simp only [Bool.false_eq_true, or_false, or_true, or_self, if_true, if_false] <;> try rfl
 rw [cmp_if]
 by_cases h : pz a < pz b
 ·rw [if_pos h, decide_eq_false (by omega)]; rfl
 ·rw [if_neg h]
  by_cases h2 : pz a = pz b
  ·rw [if_pos h2, decide_eq_true h2]; rfl
  ·rw [if_neg h2, decide_eq_false h2]; rfl
end Go.Proofs.Ytjlciehcddanpaa.A
end
section
-- PRINTED WORDS (module Derived/Print/Words.lean): go-wishes' parts 1 to 38 and go-gate-2's additions: AI agents of Go's test side, Mon Nov 16 2026; no person has read them. Plain theorems and definitions: no macro, no elab, no axiom.
set_option linter.unusedVariables false
set_option linter.unusedSimpArgs false
namespace Go.Proofs.YtjlciehcddanpaaW.PrintWords
open Go.RowKit

/-- A fact that the walk's simp doesn't look into. -/
structure Aside0 (p : Prop) : Prop where mk :: (out : p)
/-- The world is the old one, some orders having been drawn. -/
structure Drawn0 (w w' : World) : Prop where mk :: (out : ∃ n, w' = w.drewN n)
theorem Drawn0.refl (w : World) : Drawn0 w w := ⟨⟨0, rfl⟩⟩
theorem Drawn0.below {w w' : World} (h : Drawn0 w w') : Below w.heap.size w w' := by
 obtain ⟨n, rfl⟩ := h
 induction n with
 | zero => exact Below.refl _ _
 | succ n ih => rw [← World.drew_drewN]; exact ih.drew


def rd (xs : List Int) (i : Int) : Int := xs.getD i.toNat 0
theorem below_alloc {w W : World} (h : Below w.heap.size w W) (o : Obj) : Below w.heap.size w (W.alloc o) := h.alloc h.size o
theorem below_drew {B : Nat} {w W : World} (h : Below B w W) : Below B w W.drew := ⟨h.os, h.tape, h.output, h.size, h.block⟩
theorem pw_below_drewN {B : Nat} {w W : World} (h : Below B w W) (n : Nat) : Below B w (W.drewN n) := ⟨h.os, h.tape, h.output, h.size, h.block⟩
theorem below_then {B : Nat} {w w1 w2 : World} (h : Below B w w1) (hB : B ≤ w1.heap.size) (k : Below w1.heap.size w1 w2) : Below B w w2 :=
 h.trans ⟨k.os, k.tape, k.output, k.size, fun i hi => k.block i (Nat.lt_of_lt_of_le hi hB)⟩
theorem pw_cell_below {w w1 : World} (h : Below w.heap.size w w1) {a : Addr} {v : Value} (hc : w.cell? a = some v) : w1.cell? a = some v := (h.cell (World.block_lt_of_cell? w a hc)).trans hc

theorem add_plain (g j : Nat) : (⟨g, 0, none⟩ : Addr).add j = ⟨g, j, none⟩ := by unfold Addr.add; split <;> simp_all

def ReadsInt (w : World) (k : IntKind) (A : Option Addr) (n : Nat) (xs : List Int) : Prop :=
 xs.length = n ∧ n ≤ 9223372036854775807 ∧ (0 < n → ∃ ad, A = some ad ∧ ∀ j, j < n → w.cell? (ad.add j) = some (.int k (xs.getD j 0)))
theorem ReadsInt.at_ {w : World} {k : IntKind} {A : Option Addr} {n : Nat} {xs : List Int} (h : ReadsInt w k A n xs) (i : Int) (h0 : 0 ≤ i) (h1 : i < n) : ∃ ad, A = some ad ∧ w.cell? (ad.add i.toNat) = some (.int k (rd xs i)) := by
 obtain ⟨ad, e, hc⟩ := h.2.2 (by omega)
 exact ⟨ad, e, hc _ (by omega)⟩
theorem own_nil (W : World) (base : Nat) (e : TypeId) (size : Nat) : W.ownsRow base e size (.slice none 0 0) 0 [] := ⟨by simp, .inl ⟨rfl, rfl⟩⟩
theorem own_base {w : World} {base : Nat} {e : TypeId} {size n : Nat} {v : Value} {xs : List Value} (h : w.ownsRow base e size v n xs) (k : Nat) (hk : v.ownBlock = some k) : base ≤ k := by
 rcases h.2 with ⟨rfl, _⟩ | ⟨g, cap, cur, rfl, hb, _⟩
 ·simp [Value.ownBlock] at hk
 ·have : g = k := by simpa [Value.ownBlock] using hk
  omega
theorem own_lt {w : World} {base : Nat} {e : TypeId} {size n : Nat} {v : Value} {xs : List Value} (h : w.ownsRow base e size v n xs) (k : Nat) (hk : v.ownBlock = some k) : k < w.heap.size := by
 rcases h.2 with ⟨rfl, _⟩ | ⟨g, cap, cur, rfl, hb, hh, _⟩
 ·simp [Value.ownBlock] at hk
 ·have : g = k := by simpa [Value.ownBlock] using hk
  subst this
  exact (Array.getElem?_eq_some_iff.1 hh).1
section
variable {P : Program} {ops : Array Oper} {rest : List Oper} {o : Oper} {a : Act} {Q : Exit → Act → World → Prop}

end

section
variable {P : Program}
end
section
variable {P : Program} {ops : Array Oper} {rest : List Oper} {o : Oper} {a : Act} {Q : Exit → Act → World → Prop}
end

def Reps {α : Type} (R : α → List Value → Prop) (size : Nat) (ps : List α) (cs : List Value) : Prop :=
 cs.length = ps.length * size ∧ ∀ j p, ps[j]? = some p → R p ((cs.drop (j * size)).take size)
theorem Reps.none {α : Type} (R : α → List Value → Prop) (size : Nat) : Reps R size [] [] := ⟨by simp, fun j p h => by simp at h⟩
theorem Reps.snoc {α : Type} {R : α → List Value → Prop} {size : Nat} {ps : List α} {cs c : List Value} {p : α} (h : Reps R size ps cs) (hp : R p c) (hc : c.length = size) : Reps R size (ps ++ [p]) (cs ++ c) := by
 refine ⟨by rw [List.length_append, h.1, hc, List.length_append, List.length_singleton, Nat.add_mul, Nat.one_mul], fun j q hq => ?_⟩
 rcases Nat.lt_or_ge j ps.length with hj | hj
 ·rw [List.getElem?_append_left hj] at hq
  have h1 : j * size + size ≤ cs.length := by rw [h.1, ← Nat.succ_mul]; exact Nat.mul_le_mul_right _ hj
  have h2 := h.2 j q hq
  rw [List.drop_append_of_le_length (by omega), List.take_append_of_le_length (by rw [List.length_drop]; omega)]
  exact h2
 ·have hj' : j = ps.length := by
   have := (List.getElem?_eq_some_iff.1 hq).1
   rw [List.length_append, List.length_singleton] at this
   omega
  subst hj'
  have hq' : p = q := by simpa using hq
  subst hq'
  rw [← h.1, List.drop_left, ← hc, List.take_length]
  exact hp
theorem Reps.imp_ {α : Type} {R R' : α → List Value → Prop} {size : Nat} {ps : List α} {cs : List Value} (h : Reps R size ps cs) (hR : ∀ p c, R p c → R' p c) : Reps R' size ps cs := ⟨h.1, fun j p hj => hR _ _ (h.2 j p hj)⟩

def ReadsRow {α : Type} (R : α → List Value → Prop) (size : Nat) (w : World) (A : Option Addr) (n : Nat) (ps : List α) : Prop :=
 ps.length = n ∧ n ≤ 9223372036854775807 ∧ (0 < n → ∃ ad, A = some ad ∧ ∀ j p, ps[j]? = some p → ∃ c, c.length = size ∧ R p c ∧ ∀ i u, c[i]? = some u → w.cell? (ad.add (j * size + i)) = some u)
theorem ReadsRow.get_ {α : Type} {R : α → List Value → Prop} {size : Nat} {w : World} {A : Option Addr} {n : Nat} {ps : List α} (h : ReadsRow R size w A n ps) (d : α) (i : Int) (h0 : 0 ≤ i) (h1 : i < n) :
    ∃ ad c, A = some ad ∧ c.length = size ∧ R (ps.getD i.toNat d) c ∧ ∀ j u, c[j]? = some u → w.cell? (ad.add (i.toNat * size + j)) = some u := by
 obtain ⟨ad, e, hc⟩ := h.2.2 (by omega)
 have hl : i.toNat < ps.length := by have := h.1; omega
 obtain ⟨c, hs, hr, hcell⟩ := hc i.toNat _ (List.getElem?_eq_getElem hl)
 refine ⟨ad, c, e, hs, ?_, hcell⟩
 rw [List.getD_eq_getElem?_getD, List.getElem?_eq_getElem hl]
 exact hr
theorem ReadsRow.imp_ {α : Type} {R R' : α → List Value → Prop} {size : Nat} {w w1 : World} {A : Option Addr} {n : Nat} {ps : List α} (h : ReadsRow R size w A n ps) (hb : Below w.heap.size w w1) (hR : ∀ p c, R p c → R' p c) : ReadsRow R' size w1 A n ps :=
 ⟨h.1, h.2.1, fun hn => by
  obtain ⟨ad, e, hc⟩ := h.2.2 hn
  refine ⟨ad, e, fun j p hj => ?_⟩
  obtain ⟨c, hs, hr, hcell⟩ := hc j p hj
  exact ⟨c, hs, hR _ _ hr, fun i u hu => pw_cell_below hb (hcell i u hu)⟩⟩
theorem own_reads_row {α : Type} {R : α → List Value → Prop} {w : World} {base n size : Nat} {e : TypeId} {v : Value} {ps : List α} {cs : List Value} (h : w.ownsRow base e size v n cs) (hR : Reps R size ps cs) (hn : ps.length = n) :
    ∃ A c, v = .slice A n c ∧ ReadsRow R size w A n ps := by
 rcases Nat.eq_zero_or_pos n with h0 | h0
 ·rcases h.2 with ⟨rfl, rfl⟩ | ⟨g, cap, cur, rfl, _⟩
  ·exact ⟨none, 0, rfl, hn, by omega, fun hp => absurd hp (by omega)⟩
  ·exact ⟨_, cap, rfl, hn, by omega, fun hp => absurd hp (by omega)⟩
 ·obtain ⟨g, cap, rfl, _, _⟩ := h.form h0
  have hm : n ≤ 9223372036854775807 := by
   rcases h.2 with ⟨_, h1⟩ | ⟨g', cap', cur, he, _, _, h1, h2, _⟩
   ·omega
   ·simp only [maxLen] at h2
    omega
  refine ⟨_, cap, rfl, hn, hm, fun _ => ⟨_, rfl, fun j p hj => ⟨(cs.drop (j * size)).take size, ?_, hR.2 j p hj, fun i u hu => ?_⟩⟩⟩
  ·have hjl := (List.getElem?_eq_some_iff.1 hj).1
   have h1 : j * size + size ≤ cs.length := by rw [hR.1, ← Nat.succ_mul]; exact Nat.mul_le_mul_right _ hjl
   rw [List.length_take, List.length_drop]
   omega
  ·refine h.cells (g := g) rfl _ u ?_
   rw [List.getElem?_take] at hu
   split at hu
   ·rw [List.getElem?_drop] at hu
    exact hu
   ·cases hu
/-- A field's address as_ the walk spells it. -/
theorem add_field (ad : Addr) (m j : Nat) (hj : 0 < j) : ad.add (m + j) = ⟨(ad.add m).block, (ad.add m).off + j, none⟩ := by
 unfold Addr.add
 by_cases hm : m = 0
 ·subst hm
  simp [Nat.ne_of_gt hj]
 ·simp [hm, Nat.add_assoc]

section
variable {P : Program} {ops : Array Oper} {rest : List Oper} {o : Oper} {a : Act} {Q : Exit → Act → World → Prop}
/-- append(v, x), x of several cells; behind 'at_builtin'; the goal's world is 'W.alloc' of the variadic's box. -/
theorem print_append_cells {w0 W : World} (base : Nat) (hgd : o.guard = none) (s x : Operand) (t e : TypeId) (z : Value) (size bytes : Nat)
    (ho : o.op = .call { callee := .builtin .append, args := #[s, x], argTypes := #[t, t] })
    (ht : P.underlying t = some (.slice e)) (hinfo : (P.info? e).map (fun i => (i.zero, i.size, i.bytes)) = some (some z, size, bytes)) (hz : z.cells.size = size) (hs0 : 0 < size) (hb0 : 0 < bytes)
    (v : Value) (n : Nat) (xs ys : List Value) (hs : a.eval s = v) (hx : a.eval x = .slice (some ⟨W.heap.size, 0, none⟩) 1 1) (hys : ys.length = size) (h1 : ∀ u ∈ ys, u.oneCell' = true)
    (HO : W.ownsRow base e size v n xs) (HB : Below base w0 W) (hbase : base ≤ W.heap.size) (hl : (n + 1) * bytes ≤ 140737488355328)
    (h : ∀ v1 w1, w1.ownsRow base e size v1 (n + 1) (xs ++ ys) → Below base w0 w1 → W.grownBy w1 v.ownBlock → (v1.ownBlock = v.ownBlock ∨ ∃ b, v1.ownBlock = some b ∧ W.heap.size ≤ b) → wpList P ops Q rest (a.put o.dst v1) w1) :
    wpList P ops Q (o :: rest) a (W.alloc (.cells ys.toArray e)) := by
 obtain ⟨i0, hi, hzz⟩ := Option.map_eq_some_iff.1 hinfo
 simp only [Prod.mk.injEq] at hzz
 obtain ⟨hz0, hz1, hz2⟩ := hzz
 have hlen : n + 1 ≤ 140737488355328 := Nat.le_trans (Nat.le_mul_of_pos_right _ hb0) hl
 refine wpList_append_own_at (W.alloc (.cells ys.toArray e)) hgd s x t ho base e i0 z size bytes ht hi hz0 hz1 hz2 hz hs0 v n xs hs (HO.alloc _) ⟨W.heap.size, 0, none⟩ 1 1 ys hx (by rw [hys]; simp)
  (by simpa using World.news_of_block (cs := ys.toArray) (t := e) (fr := (0, 0)) (heap_alloc_new W (.cells ys.toArray e))) h1 (by simp only [maxLen]; omega) hl (by simp; omega) ?_
 intro v1 w1 hown hg _ hat
 refine h v1 w1 hown ((HB.alloc hbase _).grown hg (by simp; omega) (own_base HO)) (World.grownBy.trans (World.grownBy_alloc W _ _) hg) ?_
 rcases hat with hat | hat
 ·exact .inl hat
 ·exact .inr ⟨_, hat, by simp⟩
end

theorem blk_set {w : World} {g : Nat} {t : TypeId} {cs : Array Value} (h : w.heap[g]? = some (.cells cs t (0, 0))) (i : Nat) (u : Value) : (w.setCell ⟨g, i, none⟩ u).heap[g]? = some (.cells (cs.setIfInBounds i u) t (0, 0)) := by
 simp [World.setCell, Array.getElem?_modify, h]
theorem blk_far {w : World} {g : Nat} {t : TypeId} {cs : Array Value} (h : w.heap[g]? = some (.cells cs t (0, 0))) {p : Addr} (hp : g ≠ p.block) (u : Value) : (w.setCell p u).heap[g]? = some (.cells cs t (0, 0)) := (Below.heap_setCell w p u g hp).trans h
theorem blk_lt {w : World} {g : Nat} {o : Obj} (h : w.heap[g]? = some o) : g < w.heap.size := (Array.getElem?_eq_some_iff.1 h).1
theorem blk_cell {w : World} {g : Nat} {t : TypeId} {cs : Array Value} (h : w.heap[g]? = some (.cells cs t (0, 0))) (i : Nat) : w.cell? ⟨g, i, none⟩ = cs[i]? := cell_of_row w g i cs t (0, 0) h
theorem blk_frozen {w : World} {g : Nat} {t : TypeId} {cs : Array Value} (h : w.heap[g]? = some (.cells cs t (0, 0))) (i : Nat) : w.frozen? ⟨g, i, none⟩ = false := by simp [World.frozen?, h]
theorem blk_grown {w w1 : World} {g : Nat} {o : Obj} {row : Option Nat} (h : w.heap[g]? = some o) (hg : w.grownBy w1 row) (hne : some g ≠ row) : w1.heap[g]? = some o := (hg.block g (blk_lt h) hne).trans h
def KeepBut (w w' : World) (g : Nat) (row : Option Nat) : Prop := w.heap.size ≤ w'.heap.size ∧ ∀ i, i < w.heap.size → i ≠ g → some i ≠ row → w'.heap[i]? = w.heap[i]?
theorem KeepBut.trans {w w1 w2 : World} {g : Nat} {row row1 : Option Nat} (h : KeepBut w w1 g row) (k : KeepBut w1 w2 g row1) (hr : row1 = row ∨ ∃ b, row1 = some b ∧ w.heap.size ≤ b) : KeepBut w w2 g row :=
 ⟨Nat.le_trans h.1 k.1, fun i hi hg hn => by
  refine (k.2 i (Nat.lt_of_lt_of_le hi h.1) hg ?_).trans (h.2 i hi hg hn)
  rcases hr with rfl | ⟨b, rfl, hb⟩
  ·exact hn
  ·intro e
   injection e with e
   omega⟩
section
variable {P : Program} {ops : Array Oper} {o : Oper} {a : Act} {Q : Exit → Act → World → Prop} {K : Act → World → Prop}
end
theorem own_weaken {w : World} {base base' : Nat} {e : TypeId} {size n : Nat} {v : Value} {xs : List Value} (h : w.ownsRow base e size v n xs) (hb : base' ≤ base) : w.ownsRow base' e size v n xs := by
 obtain ⟨h1, h2⟩ := h
 refine ⟨h1, ?_⟩
 rcases h2 with h2 | ⟨g, cap, cur, rfl, hg, r⟩
 ·exact .inl h2
 ·exact .inr ⟨g, cap, cur, rfl, Nat.le_trans hb hg, r⟩
section
variable {α : Type} {enc : α → Value} {d : α}
def encs (enc : α → Value) (xs : List α) : List Value := xs.map enc
theorem encs_length (xs : List α) : (encs enc xs).length = xs.length := by simp [encs]
def ReadsOf (enc : α → Value) (d : α) (w : World) (A : Option Addr) (n : Nat) (xs : List α) : Prop :=
 xs.length = n ∧ n ≤ 9223372036854775807 ∧ (0 < n → ∃ ad, A = some ad ∧ ∀ j, j < n → w.cell? (ad.add j) = some (enc (xs.getD j d)))
end
section
variable {α : Type} {P : Program} {ops : Array Oper} {rest : List Oper} {o : Oper} {a : Act} {Q : Exit → Act → World → Prop}
end

theorem blk_drew {w : World} {g : Nat} {o : Obj} (h : w.heap[g]? = some o) : w.drew.heap[g]? = some o := h
theorem blk_drewN {w : World} {g : Nat} {o : Obj} (h : w.heap[g]? = some o) (n : Nat) : (w.drewN n).heap[g]? = some o := h
theorem blk_below {w w1 : World} {g : Nat} {o : Obj} (h : w.heap[g]? = some o) (hb : Below w.heap.size w w1) : w1.heap[g]? = some o := (hb.block g (blk_lt h)).trans h
theorem blk_new (w : World) (o : Obj) : (w.alloc o).heap[w.heap.size]? = some o := heap_alloc_new w o
section
variable {P : Program}
theorem results_ct {fn : Func} {p u : Tmp} {ty : TypeId} (h : fn.results = #[.cell p ty, .tmp u]) (tmps : Array Value) (w : World) (g : Nat) (t : TypeId) (cs : Array Value) (fr : Nat × Nat) (d : TypeDesc)
    (hp : tmps.getD p undef = .pointer (some ⟨g, 0, none⟩)) (hg : w.heap[g]? = some (.cells cs t fr))
    (hu : P.underlying ty = some d) (hd : (match d with | .struct _ | .array _ _ => true | _ => false) = true) (hi : (P.info? ty).map (·.size) = some cs.size) :
    (results fn tmps).run P w = .ok (.tuple #[.agg cs, tmps.getD u undef]) w := by
 have hp' : tmps[p]?.getD undef = .pointer (some ⟨g, 0, none⟩) := by simpa using hp
 simp [results, h, hp', asAddr, run_loadVar_row w g t ty cs fr d hg hu hd hi]
end
theorem own_le {w : World} {base n m c size : Nat} {e : TypeId} {A : Option Addr} {xs : List Value} (h : w.ownsRow base e size (.slice A m c) n xs) : m ≤ c := by
 rcases h.2 with ⟨he, _⟩ | ⟨g, cap, cur, he, _, _, hnc, _⟩
 ·injection he with _ h2 h3
  omega
 ·injection he with _ h2 h3
  omega
def OwnRow {α : Type} (R : α → List Value → Prop) (e : TypeId) (size : Nat) (w : World) (base : Nat) (v : Value) (ps : List α) : Prop :=
 ∃ inner, w.ownsRow base e size v ps.length inner ∧ Reps R size ps inner
section
variable {α : Type} {R R' : α → List Value → Prop} {e : TypeId} {size : Nat} {w w1 : World} {base : Nat} {v : Value} {ps : List α}
theorem OwnRow.none_ (R : α → List Value → Prop) (e : TypeId) (size : Nat) (w : World) (base : Nat) : OwnRow R e size w base (.slice none 0 0) [] := ⟨[], own_nil _ _ _ _, Reps.none _ _⟩
theorem OwnRow.imp_ (h : OwnRow R e size w base v ps) (hR : ∀ p c, R p c → R' p c) : OwnRow R' e size w base v ps := by
 obtain ⟨inner, ho, hr⟩ := h
 exact ⟨inner, ho, hr.imp_ hR⟩
theorem OwnRow.reads (h : OwnRow R e size w base v ps) : ∃ A c, v = .slice A ps.length c ∧ ps.length ≤ c ∧ ReadsRow R size w A ps.length ps := by
 obtain ⟨inner, ho, hr⟩ := h
 obtain ⟨A, c, rfl, hrow⟩ := own_reads_row ho hr rfl
 exact ⟨A, c, rfl, own_le ho, hrow⟩
end
section
variable {P : Program} {ops : Array Oper} {rest : List Oper} {o : Oper} {a : Act} {Q : Exit → Act → World → Prop} {α : Type} {R : α → List Value → Prop}
end
section
variable {P : Program} {ops : Array Oper} {o : Oper} {a : Act} {Q : Exit → Act → World → Prop} {K : Act → World → Prop} {α : Type} {R : α → List Value → Prop}
end
section
variable {α : Type} {P : Program}
end

section
variable {P : Program} {ops : Array Oper} {rest : List Oper} {o : Oper} {a : Act} {Q : Exit → Act → World → Prop}
end
/-- ok: which blocks the rows inside may be ('not the row that is being written'). -/
structure Kd (α : Type) where
 sz : Nat
 E : List Nat
 K : World → α → List Value → Prop
 M : World → Nat → (Nat → Prop) → α → List Value → Prop
 K_len : ∀ {w x cs}, K w x cs → cs.length = sz
 K_one : ∀ {w x cs}, K w x cs → ∀ u ∈ cs, u.oneCell' = true
 K_below : ∀ {w w1 : World} {x cs}, Below w.heap.size w w1 → K w x cs → K w1 x cs
 K_of_M : ∀ {w base ok x cs}, M w base ok x cs → K w x cs
 M_mono : ∀ {w base ok ok' x cs}, (∀ k, ok k → ok' k) → M w base ok x cs → M w base ok' x cs
 M_bound : ∀ {w : World} {base ok x cs}, M w base ok x cs → M w base (fun k => ok k ∧ base ≤ k ∧ k < w.heap.size ∧ ∃ q, q ∈ E ∧ ∃ cells, w.heap[k]? = some (.cells cells q (0, 0))) x cs
 M_move : ∀ {w w1 : World} {base ok x cs}, (∀ k, ok k → w1.heap[k]? = w.heap[k]?) → M w base ok x cs → M w1 base ok x cs
 M_lower : ∀ {w base base' ok x cs}, base' ≤ base → M w base ok x cs → M w base' ok x cs

theorem own_move {w w1 : World} {base : Nat} {e : TypeId} {size n : Nat} {v : Value} {xs : List Value} (h : w.ownsRow base e size v n xs) (hm : ∀ k, v.ownBlock = some k → w1.heap[k]? = w.heap[k]?) : w1.ownsRow base e size v n xs := by
 obtain ⟨h1, h2⟩ := h
 refine ⟨h1, ?_⟩
 rcases h2 with h2 | ⟨g, cap, cur, rfl, hg, hh, r⟩
 ·exact .inl h2
 ·exact .inr ⟨g, cap, cur, rfl, hg, (hm g (by simp [Value.ownBlock])).trans hh, r⟩
theorem own_typed {w : World} {base : Nat} {e : TypeId} {size n : Nat} {v : Value} {xs : List Value} (h : w.ownsRow base e size v n xs) (k : Nat) (hk : v.ownBlock = some k) : ∃ cells, w.heap[k]? = some (.cells cells e (0, 0)) := by
 rcases h.2 with ⟨rfl, _⟩ | ⟨g, cap, cur, rfl, hg, hh, r⟩
 ·simp [Value.ownBlock] at hk
 ·have : g = k := by simpa [Value.ownBlock] using hk
  subst this
  exact ⟨cur, hh⟩

namespace Kd
/-- A row of elements that is read. -/
def C {α : Type} (d : Kd α) (w : World) (A : Option Addr) (n : Nat) (xs : List α) : Prop := ReadsRow (d.K w) d.sz w A n xs
/-- A row of elements (type e) of the call's own; the elements' rows are not this one. -/
def R {α : Type} (d : Kd α) (e : Nat) (w : World) (base : Nat) (ok : Nat → Prop) (v : Value) (xs : List α) : Prop :=
 (∀ k, v.ownBlock = some k → ok k) ∧ OwnRow (d.M w base (fun k => ok k ∧ some k ≠ v.ownBlock)) e d.sz w base v xs
section
variable {α : Type} {d : Kd α} {e : Nat} {w w1 : World} {base : Nat} {ok ok' : Nat → Prop} {v : Value} {xs : List α}
theorem C_below {A : Option Addr} {n : Nat} (h : d.C w A n xs) (hb : Below w.heap.size w w1) : d.C w1 A n xs := ReadsRow.imp_ h hb (fun _ _ hp => d.K_below hb hp)
theorem R_nil (d : Kd α) (e : Nat) (w : World) (base : Nat) (ok : Nat → Prop) : d.R e w base ok (.slice none 0 0) [] := ⟨fun k hk => by simp [Value.ownBlock] at hk, OwnRow.none_ _ _ _ _ _⟩
theorem R_mono (h : d.R e w base ok v xs) (hok : ∀ k, ok k → ok' k) : d.R e w base ok' v xs := ⟨fun k hk => hok k (h.1 k hk), h.2.imp_ (fun _ _ hp => d.M_mono (fun k hk => ⟨hok k hk.1, hk.2⟩) hp)⟩
theorem R_bound (h : d.R e w base ok v xs) : d.R e w base (fun k => ok k ∧ base ≤ k ∧ k < w.heap.size ∧ ∃ q, q ∈ e :: d.E ∧ ∃ cells, w.heap[k]? = some (.cells cells q (0, 0))) v xs := by
 obtain ⟨h0, inner, ho, hr⟩ := h
 refine ⟨fun k hk => ?_, inner, ho, hr.imp_ (fun _ _ hp => d.M_mono (fun k hk => ?_) (d.M_bound hp))⟩
 ·obtain ⟨cells, hc⟩ := own_typed ho k hk
  exact ⟨h0 k hk, own_base ho k hk, own_lt ho k hk, e, List.mem_cons_self, cells, hc⟩
 ·obtain ⟨⟨h1, h2⟩, h3, h4, q, hq, hc⟩ := hk
  exact ⟨⟨h1, h3, h4, q, List.mem_cons_of_mem _ hq, hc⟩, h2⟩
theorem R_move (h : d.R e w base ok v xs) (hm : ∀ k, ok k → w1.heap[k]? = w.heap[k]?) : d.R e w1 base ok v xs := by
 obtain ⟨h0, inner, ho, hr⟩ := h
 exact ⟨h0, inner, own_move ho (fun k hk => hm k (h0 k hk)), hr.imp_ (fun _ _ hp => d.M_move (fun k hk => hm k hk.1) hp)⟩
theorem R_lower {base' : Nat} (h : d.R e w base ok v xs) (hb : base' ≤ base) : d.R e w base' ok v xs := by
 obtain ⟨h0, inner, ho, hr⟩ := h
 exact ⟨h0, inner, own_weaken ho hb, hr.imp_ (fun _ _ hp => d.M_lower hb hp)⟩
theorem R_reads (h : d.R e w base ok v xs) : ∃ A c, v = .slice A xs.length c ∧ xs.length ≤ c ∧ d.C w A xs.length xs := by
 obtain ⟨A, c, he, hl, hr⟩ := OwnRow.reads h.2
 exact ⟨A, c, he, hl, hr.imp_ (Below.refl _ _) (fun _ _ hp => d.K_of_M hp)⟩
theorem R_slice (h : d.R e w base ok v xs) : ∃ A c, v = .slice A xs.length c := by
 obtain ⟨A, c, he, _⟩ := R_reads h
 exact ⟨A, c, he⟩
theorem R_own (h : d.R e w base ok v xs) : ∃ inner, w.ownsRow base e d.sz v xs.length inner := by
 obtain ⟨_, inner, ho, _⟩ := h
 exact ⟨inner, ho⟩
end

def scalar {α : Type} (enc : α → Value) (h1 : ∀ x, (enc x).oneCell' = true) : Kd α where
 sz := 1
 E := []
 K := fun _ x cs => cs = [enc x]
 M := fun _ _ _ x cs => cs = [enc x]
 K_len := fun h => by rw [h]; rfl
 K_one := fun h u hu => by
  rw [h] at hu
  rw [List.mem_singleton.1 hu]
  exact h1 _
 K_below := fun _ h => h
 K_of_M := fun h => h
 M_mono := fun _ h => h
 M_bound := fun h => h
 M_move := fun _ h => h
 M_lower := fun _ h => h
def int (k : IntKind) : Kd Int := scalar (Value.int k) (fun _ => rfl)
def slice {α : Type} (e : Nat) (d : Kd α) : Kd (List α) where
 sz := 1
 E := e :: d.E
 K := fun w xs cs => ∃ A c, cs = [.slice A xs.length c] ∧ xs.length ≤ c ∧ d.C w A xs.length xs
 M := fun w base ok xs cs => ∃ v, cs = [v] ∧ d.R e w base ok v xs
 K_len := by
  rintro w x cs ⟨A, c, rfl, _⟩
  rfl
 K_one := by
  rintro w x cs ⟨A, c, rfl, _⟩ u hu
  rw [List.mem_singleton.1 hu]
  rfl
 K_below := by
  rintro w w1 x cs hb ⟨A, c, rfl, hl, hr⟩
  exact ⟨A, c, rfl, hl, C_below hr hb⟩
 K_of_M := by
  rintro w base ok x cs ⟨v, rfl, h⟩
  obtain ⟨A, c, rfl, hl, hr⟩ := R_reads h
  exact ⟨A, c, rfl, hl, hr⟩
 M_mono := by
  rintro w base ok ok' x cs hok ⟨v, rfl, h⟩
  exact ⟨v, rfl, R_mono h hok⟩
 M_bound := by
  rintro w base ok x cs ⟨v, rfl, h⟩
  exact ⟨v, rfl, R_bound h⟩
 M_move := by
  rintro w w1 base ok x cs hm ⟨v, rfl, h⟩
  exact ⟨v, rfl, R_move h hm⟩
 M_lower := by
  rintro w base base' ok x cs hb ⟨v, rfl, h⟩
  exact ⟨v, rfl, R_lower h hb⟩
/-- Two in line. -/
def pair {α β : Type} (a : Kd α) (b : Kd β) : Kd (α × β) where
 sz := a.sz + b.sz
 E := a.E ++ b.E
 K := fun w x cs => ∃ c0 c1, cs = c0 ++ c1 ∧ a.K w x.1 c0 ∧ b.K w x.2 c1
 M := fun w base ok x cs => ∃ c0 c1, cs = c0 ++ c1 ∧ a.M w base ok x.1 c0 ∧ b.M w base ok x.2 c1
 K_len := by
  rintro w x cs ⟨c0, c1, rfl, h0, h1⟩
  rw [List.length_append, a.K_len h0, b.K_len h1]
 K_one := by
  rintro w x cs ⟨c0, c1, rfl, h0, h1⟩ u hu
  rcases List.mem_append.1 hu with hu | hu
  ·exact a.K_one h0 u hu
  ·exact b.K_one h1 u hu
 K_below := by
  rintro w w1 x cs hb ⟨c0, c1, rfl, h0, h1⟩
  exact ⟨c0, c1, rfl, a.K_below hb h0, b.K_below hb h1⟩
 K_of_M := by
  rintro w base ok x cs ⟨c0, c1, rfl, h0, h1⟩
  exact ⟨c0, c1, rfl, a.K_of_M h0, b.K_of_M h1⟩
 M_mono := by
  rintro w base ok ok' x cs hok ⟨c0, c1, rfl, h0, h1⟩
  exact ⟨c0, c1, rfl, a.M_mono hok h0, b.M_mono hok h1⟩
 M_bound := by
  rintro w base ok x cs ⟨c0, c1, rfl, h0, h1⟩
  refine ⟨c0, c1, rfl, a.M_mono ?_ (a.M_bound h0), b.M_mono ?_ (b.M_bound h1)⟩
  ·rintro k ⟨h2, h3, h4, q, hq, hc⟩
   exact ⟨h2, h3, h4, q, List.mem_append_left _ hq, hc⟩
  ·rintro k ⟨h2, h3, h4, q, hq, hc⟩
   exact ⟨h2, h3, h4, q, List.mem_append_right _ hq, hc⟩
 M_move := by
  rintro w w1 base ok x cs hm ⟨c0, c1, rfl, h0, h1⟩
  exact ⟨c0, c1, rfl, a.M_move hm h0, b.M_move hm h1⟩
 M_lower := by
  rintro w base base' ok x cs hb ⟨c0, c1, rfl, h0, h1⟩
  exact ⟨c0, c1, rfl, a.M_lower hb h0, b.M_lower hb h1⟩
/-- A Lean structure by its fields. -/
def iso {α β : Type} (d : Kd α) (f : β → α) : Kd β where
 sz := d.sz
 E := d.E
 K := fun w x cs => d.K w (f x) cs
 M := fun w base ok x cs => d.M w base ok (f x) cs
 K_len := d.K_len
 K_one := d.K_one
 K_below := d.K_below
 K_of_M := d.K_of_M
 M_mono := d.M_mono
 M_bound := d.M_bound
 M_move := d.M_move
 M_lower := d.M_lower
/-- Nothing is of this kind: where the nesting's depth is used up. -/
def bot {α : Type} (sz : Nat) (E : List Nat) : Kd α where
 sz := sz
 E := E
 K := fun _ _ _ => False
 M := fun _ _ _ _ _ => False
 K_len := fun h => h.elim
 K_one := fun h => h.elim
 K_below := fun _ h => h
 K_of_M := fun h => h
 M_mono := fun _ h => h
 M_bound := fun h => h
 M_move := fun _ h => h
 M_lower := fun _ h => h
/-- A type nested in itself: nested at most n deep .. -/
def upto {α : Type} (F : Kd α → Kd α) (sz : Nat) (E : List Nat) : Nat → Kd α
 | 0 => bot sz E
 | n + 1 => F (upto F sz E n)
theorem C_get {α : Type} {d : Kd α} {w : World} {A : Option Addr} {n : Nat} {xs : List α} (h : d.C w A n xs) (z : α) (i : Int) (h0 : 0 ≤ i) (h1 : i < n) :
    ∃ ad c, A = some ad ∧ c.length = d.sz ∧ d.K w (xs.getD i.toNat z) c ∧ ∀ j u, c[j]? = some u → w.cell? (ad.add (i.toNat * d.sz + j)) = some u := ReadsRow.get_ h z i h0 h1
/-- What an append leaves: the old elements' rows and the new one's are not the new row's block. -/
theorem R_appended {α : Type} {d : Kd α} {e base : Nat} {ok okp : Nat → Prop} {W w1 : World} {v v1 : Value} {xs : List α} {p : α} {inner cs : List Value} (h0 : ∀ k, v.ownBlock = some k → ok k) (hr : Reps (d.M W base (fun k => ok k ∧ some k ≠ v.ownBlock)) d.sz xs inner) (hp : d.M W base okp p cs) (hokp : ∀ k, okp k → ok k ∧ some k ≠ v.ownBlock) (hfresh : ∀ k, W.heap.size ≤ k → ok k)
    (hown : w1.ownsRow base e d.sz v1 (xs.length + 1) (inner ++ cs)) (hg : W.grownBy w1 v.ownBlock) (hat : v1.ownBlock = v.ownBlock ∨ ∃ b, v1.ownBlock = some b ∧ W.heap.size ≤ b) : d.R e w1 base ok v1 (xs ++ [p]) := by
 have hne : ∀ k, some k ≠ v.ownBlock → k < W.heap.size → some k ≠ v1.ownBlock := by
  intro k hk hlt
  rcases hat with hat | ⟨b, hb, hle⟩
  ·rw [hat]; exact hk
  ·rw [hb]
   intro he
   injection he with he
   omega
 have step : ∀ {q : α} {c : List Value} {o : Nat → Prop}, d.M W base o q c → (∀ k, o k → ok k ∧ some k ≠ v.ownBlock) → d.M w1 base (fun k => ok k ∧ some k ≠ v1.ownBlock) q c := by
  intro q c o hq ho
  have h1 := d.M_move (w1 := w1) (fun k hk => hg.block k hk.2.2.1 (ho k hk.1).2) (d.M_bound hq)
  exact d.M_mono (fun k hk => ⟨(ho k hk.1).1, hne k (ho k hk.1).2 hk.2.2.1⟩) h1
 refine ⟨fun k hk => ?_, inner ++ cs, by rw [List.length_append, List.length_singleton]; exact hown, ?_⟩
 ·rcases hat with hat | ⟨b, hb, hle⟩
  ·exact h0 k (hat ▸ hk)
  ·rw [hb] at hk
   injection hk with hk
   exact hfresh k (by omega)
 ·exact (hr.imp_ (fun _ _ hq => step hq (fun _ hk => hk))).snoc (step hp hokp) (d.K_len (d.K_of_M hp))
section
variable {P : Program} {ops : Array Oper} {rest : List Oper} {o : Oper} {a : Act} {Q : Exit → Act → World → Prop} {α : Type}
/-- append(v, x), behind 'at_builtin'; the goal's world is 'W.alloc' of the variadic's box; x's cells are cs, made (its rows satisfy okp). hfresh: a block that is new at W is ok. -/
theorem R_append (d : Kd α) {w0 W : World} (base : Nat) (hgd : o.guard = none) (s x : Operand) (t e : TypeId) (z : Value) (bytes : Nat)
    (ho : o.op = .call { callee := .builtin .append, args := #[s, x], argTypes := #[t, t] })
    (ht : P.underlying t = some (.slice e)) (hinfo : (P.info? e).map (fun i => (i.zero, i.size, i.bytes)) = some (some z, d.sz, bytes)) (hz : z.cells.size = d.sz) (hs0 : 0 < d.sz) (hb0 : 0 < bytes)
    (v : Value) (xs : List α) (p : α) (cs : List Value) (ok okp : Nat → Prop) (hs : a.eval s = v) (hx : a.eval x = .slice (some ⟨W.heap.size, 0, none⟩) 1 1) (hp : d.M W base okp p cs) (hokp : ∀ k, okp k → ok k ∧ some k ≠ v.ownBlock) (hfresh : ∀ k, W.heap.size ≤ k → ok k)
    (HO : d.R e W base ok v xs) (HB : Below base w0 W) (hbase : base ≤ W.heap.size) (hl : (xs.length + 1) * bytes ≤ 140737488355328)
    (h : ∀ v1 w1, d.R e w1 base ok v1 (xs ++ [p]) → Below base w0 w1 → W.grownBy w1 v.ownBlock → (v1.ownBlock = v.ownBlock ∨ ∃ b, v1.ownBlock = some b ∧ W.heap.size ≤ b) → wpList P ops Q rest (a.put o.dst v1) w1) :
    wpList P ops Q (o :: rest) a (W.alloc (.cells cs.toArray e)) := by
 obtain ⟨h0, inner, hown, hr⟩ := HO
 refine print_append_cells base hgd s x t e z d.sz bytes ho ht hinfo hz hs0 hb0 v xs.length inner cs hs hx (d.K_len (d.K_of_M hp)) (d.K_one (d.K_of_M hp)) hown HB hbase hl ?_
 intro v1 w1 hown1 hb1 hg1 hat1
 exact h v1 w1 (R_appended h0 hr hp hokp hfresh hown1 hg1 hat1) hb1 hg1 hat1
end
section
variable {P : Program} {ops : Array Oper} {o : Oper} {a : Act} {Q : Exit → Act → World → Prop} {Kc : Act → World → Prop} {α : Type}
end
/-- A row of scalars is the elder form. -/
theorem reps_scalar {α : Type} {enc : α → Value} (xs : List α) : Reps (fun (x : α) (cs : List Value) => cs = [enc x]) 1 xs (encs enc xs) := by
 refine ⟨by simp [encs], fun j p hj => ?_⟩
 obtain ⟨hl, hp⟩ := List.getElem?_eq_some_iff.1 hj
 have hl' : j < (encs enc xs).length := by rw [encs_length]; exact hl
 rw [Nat.mul_one, List.drop_eq_getElem_cons hl']
 simp [encs, hp]
theorem R_of_own {α : Type} {enc : α → Value} {h1 : ∀ x, (enc x).oneCell' = true} {e : Nat} {w : World} {base : Nat} {ok : Nat → Prop} {v : Value} {xs : List α} (ho : w.ownsRow base e 1 v xs.length (encs enc xs)) (hok : ∀ k, v.ownBlock = some k → ok k) : (scalar enc h1).R e w base ok v xs := ⟨hok, encs enc xs, ho, reps_scalar xs⟩
theorem own_of_R {α : Type} {enc : α → Value} {h1 : ∀ x, (enc x).oneCell' = true} {e : Nat} {w : World} {base : Nat} {ok : Nat → Prop} {v : Value} {xs : List α} (h : (scalar enc h1).R e w base ok v xs) : w.ownsRow base e 1 v xs.length (encs enc xs) := by
 obtain ⟨_, inner, ho, hr⟩ := h
 have : inner = encs enc xs := by
  apply List.ext_getElem?
  intro j
  rcases Nat.lt_or_ge j xs.length with hj | hj
  ·have h2 := hr.2 j _ (List.getElem?_eq_getElem hj)
   have hl : j < inner.length := by have := hr.1; simp [scalar] at this; omega
   have h3 : (inner.drop (j * 1)).take 1 = [enc xs[j]] := h2
   rw [Nat.mul_one, List.drop_eq_getElem_cons hl] at h3
   have h4 : inner[j] = enc xs[j] := by
    have h5 := congrArg List.head? h3
    rw [List.take_succ_cons] at h5
    exact Option.some.inj h5
   rw [List.getElem?_eq_getElem hl, h4]
   simp [encs, List.getElem?_eq_getElem hj]
  ·have h3 : inner.length = xs.length := by have := hr.1; simp [scalar] at this; omega
   rw [List.getElem?_eq_none (by omega), List.getElem?_eq_none (by rw [encs_length]; omega)]
 rw [← this]
 exact ho
theorem C_of_reads {α : Type} {enc : α → Value} {d : α} {h1 : ∀ x, (enc x).oneCell' = true} {w : World} {A : Option Addr} {n : Nat} {xs : List α} (h : ReadsOf enc d w A n xs) : (scalar enc h1).C w A n xs := by
 refine ⟨h.1, h.2.1, fun hn => ?_⟩
 obtain ⟨ad, e, hc⟩ := h.2.2 hn
 refine ⟨ad, e, fun j p hj => ⟨[enc p], rfl, rfl, fun i u hu => ?_⟩⟩
 obtain ⟨hl, hp⟩ := List.getElem?_eq_some_iff.1 hj
 have h2 := hc j (by have := h.1; omega)
 rw [List.getD_eq_getElem?_getD, hj] at h2
 cases i with
 | zero =>
  have : enc p = u := by simpa using hu
  subst this
  simpa [scalar] using h2
 | succ i => simp at hu
theorem reads_of_C {α : Type} {enc : α → Value} {d : α} {h1 : ∀ x, (enc x).oneCell' = true} {w : World} {A : Option Addr} {n : Nat} {xs : List α} (h : (scalar enc h1).C w A n xs) : ReadsOf enc d w A n xs := by
 refine ⟨h.1, h.2.1, fun hn => ?_⟩
 obtain ⟨ad, e, hc⟩ := h.2.2 hn
 refine ⟨ad, e, fun j hj => ?_⟩
 have hl : j < xs.length := by have := h.1; omega
 obtain ⟨c, _, hK, hcell⟩ := hc j _ (List.getElem?_eq_getElem hl)
 have hK' : c = [enc xs[j]] := hK
 subst hK'
 have := hcell 0 _ rfl
 simpa [scalar, List.getD_eq_getElem?_getD, List.getElem?_eq_getElem hl] using this
end Kd
namespace Kd
section
variable {α : Type} {F : Kd α → Kd α} {sz : Nat} {E : List Nat} {hs : ∀ n, (upto F sz E n).sz = sz} {hE : ∀ n q, q ∈ (upto F sz E n).E → q ∈ E}
end
end Kd
namespace Kd
end Kd
namespace Kd
section
variable {α β : Type} {d : Kd α} {d' : Kd β} {e e' : Nat} {w w1 W : World} {base b b' : Nat} {ok ok' okv oku : Nat → Prop} {v u : Value} {xs : List α} {ys : List β}
theorem R_reads' {A : Option Addr} {n c : Nat} (h : d.R e w base ok (.slice A n c) xs) : n = xs.length ∧ n ≤ c ∧ d.C w A xs.length xs := by
 obtain ⟨A', c', he, hl, hr⟩ := R_reads h
 injection he with h1 h2 h3
 subst h1
 exact ⟨h2, by omega, hr⟩
theorem R_form (h : d.R e w base ok v xs) (hp : 0 < xs.length) : ∃ g cap, v = .slice (some ⟨g, 0, none⟩) xs.length cap ∧ base ≤ g ∧ g < w.heap.size ∧ ∃ cells, w.heap[g]? = some (.cells cells e (0, 0)) := by
 obtain ⟨inner, ho⟩ := R_own h
 obtain ⟨g, cap, he, hb, hl⟩ := ho.form hp
 obtain ⟨cells, hc⟩ := own_typed ho g (by rw [he]; simp [Value.ownBlock])
 exact ⟨g, cap, he, hb, hl, cells, hc⟩
end
section
variable {w W : World} {A : Option Addr} {n : Nat}
variable {α : Type} {enc : α → Value} {h1 : ∀ x, (enc x).oneCell' = true} {e base g cap : Nat} {ok : Nat → Prop} {xs : List α}
end

section
variable {P : Program} {ops : Array Oper} {rest : List Oper} {o : Oper} {a : Act} {Q : Exit → Act → World → Prop}
theorem event_run {W w1 : World} {v : Value} (hgd : o.guard = none) (hrun : (execOp a.eval o).run P W = .ok (.value v) w1) (h : wpList P ops Q rest (a.put o.dst v) w1) : wpList P ops Q (o :: rest) a W := by
 refine wpList_plain hgd fun K hK => ?_
 unfold Oper.wp
 rw [hrun]
 exact hK _ _ h
variable {α : Type}
end
end Kd
section
variable {P : Program}
end
/-- A row of one's own that may begin inside its block. -/
def QRow (w : World) (base : Nat) (e : TypeId) (size : Nat) (v : Value) (n : Nat) (xs : List Value) : Prop :=
 xs.length = n * size ∧
 ((n = 0 ∧ ∃ A, v = .slice A 0 0 ∧ ∀ a, A = some a → base ≤ a.block ∧ ∃ cur, w.heap[a.block]? = some (.cells cur e (0, 0))) ∨
  ∃ g off cap cur, v = .slice (some ⟨g, off * size, none⟩) n cap ∧ base ≤ g ∧ w.heap[g]? = some (.cells cur e (0, 0)) ∧ n ≤ cap ∧ off + cap ≤ maxLen ∧ cur.size = (off + cap) * size ∧ (cur.toList.drop (off * size)).take (n * size) = xs)
section
variable {w w1 : World} {base n size : Nat} {e : TypeId} {v : Value} {xs : List Value}
theorem add_at (g o j : Nat) : (⟨g, o, none⟩ : Addr).add j = ⟨g, o + j, none⟩ := by unfold Addr.add; split <;> simp_all
end
section
variable {P : Program}
end
namespace Kd
def Q {α : Type} (d : Kd α) (e : Nat) (w : World) (base : Nat) (ok : Nat → Prop) (v : Value) (xs : List α) : Prop :=
 (∀ k, v.ownBlock = some k → ok k) ∧ ∃ inner, QRow w base e d.sz v xs.length inner ∧ Reps (d.M w base (fun k => ok k ∧ some k ≠ v.ownBlock)) d.sz xs inner
section
variable {α : Type} {d : Kd α} {e : Nat} {w w1 W : World} {base : Nat} {ok ok' : Nat → Prop} {v : Value} {xs : List α}
end
section
variable {P : Program} {ops : Array Oper} {rest : List Oper} {o : Oper} {a : Act} {Q' : Exit → Act → World → Prop} {Kc : Act → World → Prop} {α : Type}
end
end Kd
namespace Kd
section
variable {α : Type} {d : Kd α} {e e' : Nat} {w w1 W : World} {base : Nat} {ok : Nat → Prop} {u v : Value} {xs : List α}
end
end Kd
namespace Kd
section
variable {α : Type} {d : Kd α} {e base g n cap : Nat} {ok okp : Nat → Prop} {W : World} {xs : List α}
/-- Element i of a row of one's own: its cells. -/
theorem R_elem (h : d.R e W base ok (.slice (some ⟨g, 0, none⟩) n cap) xs) (z : α) (i : Int) (h0 : 0 ≤ i) (h1 : i < n) :
    ∃ c, c.length = d.sz ∧ d.M W base (fun k => ok k ∧ k ≠ g) (xs.getD i.toNat z) c ∧ (∀ j u, c[j]? = some u → W.cell? ⟨g, i.toNat * d.sz + j, none⟩ = some u) ∧ ∀ j, W.frozen? ⟨g, i.toNat * d.sz + j, none⟩ = false := by
 obtain ⟨hn, hnc, hC⟩ := R_reads' h
 obtain ⟨_, inner, ho, hr⟩ := h
 have hil : i.toNat < xs.length := by omega
 have hseg : i.toNat * d.sz + d.sz ≤ inner.length := by rw [hr.1, ← Nat.succ_mul]; exact Nat.mul_le_mul_right _ hil
 have hM := hr.2 i.toNat _ (List.getElem?_eq_getElem hil)
 refine ⟨(inner.drop (i.toNat * d.sz)).take d.sz, by rw [List.length_take, List.length_drop]; omega, ?_, fun j u hu => ?_, fun j => ?_⟩
 ·rw [List.getD_eq_getElem?_getD, List.getElem?_eq_getElem hil]
  exact d.M_mono (fun k hk => ⟨hk.1, fun he => hk.2 (by rw [he]; simp [Value.ownBlock])⟩) hM
 ·rw [List.getElem?_take] at hu
  split at hu
  ·rw [List.getElem?_drop] at hu
   have := ho.cells (g := g) (by simp [Value.ownBlock]) _ u hu
   rwa [add_plain] at this
  ·cases hu
 ·obtain ⟨cells, hc⟩ := own_typed ho g (by simp [Value.ownBlock])
  exact blk_frozen hc _
end
end Kd
namespace Kd
def fixed {α : Type} (d : Kd α) (w0 : World) : Kd α where
 sz := d.sz
 E := []
 K := fun _ x cs => d.K w0 x cs
 M := fun _ _ _ x cs => d.K w0 x cs
 K_len := d.K_len
 K_one := d.K_one
 K_below := fun _ h => h
 K_of_M := fun h => h
 M_mono := fun _ h => h
 M_bound := fun h => h
 M_move := fun _ h => h
 M_lower := fun _ h => h
def or_ {α : Type} (a b : Kd α) (h : b.sz = a.sz) : Kd α where
 sz := a.sz
 E := a.E ++ b.E
 K := fun w x cs => a.K w x cs ∨ b.K w x cs
 M := fun w base ok x cs => a.M w base ok x cs ∨ b.M w base ok x cs
 K_len := fun hk => hk.elim a.K_len (fun hk => (b.K_len hk).trans h)
 K_one := fun hk => hk.elim a.K_one b.K_one
 K_below := fun hb hk => hk.imp (a.K_below hb) (b.K_below hb)
 K_of_M := fun hk => hk.imp a.K_of_M b.K_of_M
 M_mono := fun hok hk => hk.imp (a.M_mono hok) (b.M_mono hok)
 M_bound := fun hk => hk.imp
  (fun hk => a.M_mono (fun _ ⟨h1, h2, h3, q, hq, hc⟩ => ⟨h1, h2, h3, q, List.mem_append_left _ hq, hc⟩) (a.M_bound hk))
  (fun hk => b.M_mono (fun _ ⟨h1, h2, h3, q, hq, hc⟩ => ⟨h1, h2, h3, q, List.mem_append_right _ hq, hc⟩) (b.M_bound hk))
 M_move := fun hm hk => hk.imp (a.M_move hm) (b.M_move hm)
 M_lower := fun hb hk => hk.imp (a.M_lower hb) (b.M_lower hb)
/-- A slice whose elements are read by d when it came in, and are of kind dm when it is made. -/
def mix {α : Type} (e : Nat) (d dm : Kd α) (w0 : World) : Kd (List α) := or_ (fixed (slice e d) w0) (slice e dm) rfl
theorem mix_made {α : Type} {e : Nat} {d dm : Kd α} {w0 w : World} {base : Nat} {ok : Nat → Prop} {v : Value} {xs : List α} (h : dm.R e w base ok v xs) : (mix e d dm w0).M w base ok xs [v] := .inr ⟨v, rfl, h⟩
section
variable {α : Type} {F : Kd α → Kd α} {sz : Nat} {E : List Nat} {hs : ∀ n, (upto F sz E n).sz = sz} {hE : ∀ n q, q ∈ (upto F sz E n).E → q ∈ E}
end
end Kd
namespace Kd
section
variable {P : Program} {ops : Array Oper} {rest : List Oper} {o : Oper} {a : Act} {Q : Exit → Act → World → Prop} {α : Type}
end
end Kd
theorem run_store_run {P : Program} {w : World} {g o : Nat} {e : TypeId} {cur : Array Value} (t : TypeId) (u : Value) (seg : List Value) (hh : w.heap[g]? = some (.cells cur e (0, 0))) (hu : u.cells.toList = seg) (ht : (P.info? t).map (·.size) = some seg.length)
    (hfit : o + seg.length ≤ cur.size) (h1 : ∀ q ∈ seg, q.oneCell' = true) : (Instr.storeAt t (.pointer (some ⟨g, o, none⟩)) u).run P w = .ok () (w.setCells g o seg) := by
 obtain ⟨i, hi, hsz⟩ := Option.map_eq_some_iff.1 ht
 have hc : u.cells.size = i.size := by rw [hsz, ← hu, Array.length_toList]
 have hst := run_storeCells_cells (P := P) g o seg 0 w (fun j hj => by rw [cell_of_row w g _ cur e (0, 0) hh]; simp; omega) (fun j _ => blk_frozen hh _) h1
 simp only [Nat.add_zero] at hst
 simp [Instr.storeAt, Instr.sureAddr, storeVar, sizeOf, typeInfo, hi, hc, hu, hst]
namespace Kd
section
variable {P : Program} {ops : Array Oper} {rest : List Oper} {o : Oper} {a : Act} {Q : Exit → Act → World → Prop} {α : Type}
end
end Kd
namespace Kd
section
variable {α : Type} {k : Kd α} {w : World} {A : Option Addr} {xs : List α} {m c : Nat}
end
end Kd
section
variable {P : Program}
end
theorem below_size {w W : World} (h : Below w.heap.size w W) : w.heap.size ≤ W.heap.size := h.size
theorem below_step {w W w2 : World} (h : Below w.heap.size w W) (k : Below W.heap.size W w2) : Below w.heap.size w w2 := below_then h h.size k
theorem below_set {w W : World} {g j : Nat} {v : Value} (h : Below w.heap.size w W) (hg : w.heap.size ≤ g) : Below w.heap.size w (W.setCell ⟨g, j, none⟩ v) := h.setCell hg _
theorem add_block (a : Addr) (i : Nat) : (a.add i).block = a.block := by unfold Addr.add; split <;> rfl
theorem cell_far {W : World} {p a : Addr} (h : a.block ≠ p.block) (u : Value) : (W.setCell p u).cell? a = W.cell? a := by
 have := Below.heap_setCell W p u a.block h
 simp [World.cell?, this]
theorem blk_put {w : World} {g : Nat} {t : TypeId} {cs cs' : Array Value} (h : w.heap[g]? = some (.cells cs t (0, 0))) (i : Nat) (u : Value) (e : cs.setIfInBounds i u = cs') : (w.setCell ⟨g, i, none⟩ u).heap[g]? = some (.cells cs' t (0, 0)) := e ▸ blk_set h i u
namespace Kd
section
variable {α β : Type} {d : Kd α} {d' : Kd β} {e e' base base' n : Nat} {ok ok' : Nat → Prop} {w W w1 W1 : World} {v u : Value} {xs : List α} {ys : List β} {A : Option Addr} {c : Nat}
end
section
variable {α : Type} {enc : α → Value} {h1 : ∀ x, (enc x).oneCell' = true} {w W : World} {A : Option Addr} {n g : Nat} {xs : List α}
end
end Kd
namespace Kd
section
variable {α : Type} {d : Kd α} {e base g : Nat} {ok : Nat → Prop} {w w1 : World} {v : Value} {xs : List α} {o : Obj}
end
end Kd
section
variable {P : Program} {ops : Array Oper} {rest : List Oper} {o : Oper} {a : Act} {Q : Exit → Act → World → Prop}
theorem box_event {W : World} (hgd : o.guard = none) {N : Tmp} (_hd : o.dst = some N) {cs : Array Value} {t : TypeId}
    (hrun : (execOp a.eval o).run P W = .ok (.value (.pointer (some ⟨W.heap.size, 0, none⟩))) (W.alloc (.cells cs t (0, 0))))
    (h : ∀ g, g = W.heap.size → ∀ w1, w1.heap[g]? = some (.cells cs t (0, 0)) → Below W.heap.size W w1 → wpList P ops Q rest (a.put o.dst (.pointer (some ⟨g, 0, none⟩))) w1) : wpList P ops Q (o :: rest) a W :=
 Kd.event_run hgd hrun (h _ rfl _ (blk_new W _) (below_alloc (Below.refl _ _) _))
end
namespace Kd
section
variable {α : Type} {enc : α → Value} {h1 : ∀ x, (enc x).oneCell' = true} {e base g n cap : Nat} {ok : Nat → Prop} {W : World} {xs : List α}
end
end Kd
section
variable {P : Program} {ops : Array Oper} {rest : List Oper} {o : Oper} {a : Act} {Q : Exit → Act → World → Prop}
end
namespace Kd
section
variable {α : Type} {enc : α → Value} {h1 : ∀ x, (enc x).oneCell' = true} {e base g n cap : Nat} {ok : Nat → Prop} {W : World} {xs : List α}
end
end Kd
section
variable {P : Program} {ops : Array Oper} {rest : List Oper} {o : Oper} {a : Act} {Q : Exit → Act → World → Prop} {W : World}
theorem gate_dst {N : Tmp} (_hN : o.dst = some N) (h : wpList P ops Q (o :: rest) a W) : wpList P ops Q (o :: rest) a W := h
theorem gate_store {t : TypeId} {p : Tmp} {v : Operand} (_ho : o.op = .store t (.tmp p) v) (h : wpList P ops Q (o :: rest) a W) : wpList P ops Q (o :: rest) a W := h
end
section
variable {P : Program} {ops : Array Oper} {o : Oper} {a : Act} {Q : Exit → Act → World → Prop} {Kc : Act → World → Prop}
namespace Kd
variable {α : Type}
end Kd
end
section
variable {P : Program} {tmps : Array Value} {w : World}
end
namespace Kd
section
variable {P : Program} {α : Type}
end
section
variable {P : Program} {ops : Array Oper} {rest : List Oper} {o : Oper} {a : Act} {Q : Exit → Act → World → Prop} {Kc : Act → World → Prop} {α : Type}
end
end Kd

end Go.Proofs.YtjlciehcddanpaaW.PrintWords
end
section
namespace Go.Proofs.YtjlciehcddanpaaW.PrintLast

section
variable {P : Program} {ops : Array Oper} {Q : Exit → Act → World → Prop} {md : Region.Mode} {S : World → Prop} {ds : List Nat}

/-- Operation d waits for operation i, by a chain of at most 'fuel' edges. -/
def Region.reachB (md : Region.Mode) (ops : Array Oper) (i : Nat) : Nat → Nat → Bool
 | 0, _ => false
 | fuel + 1, d => match ops[d]? with
  | some o => o.after.any fun e => Region.binds md e && (e.on == i || Region.reachB md ops i fuel e.on)
  | none => false

/-- What is listed is closed under the edges. -/
def Region.closedB (md : Region.Mode) (ops : Array Oper) (listed : Array Bool) : Bool :=
 (List.range ops.size).all fun j => !listed.getD j false || match ops[j]? with
  | some o => o.after.all fun e => !Region.binds md e || listed.getD e.on false
  | none => true

/-- Each of ds that has not come up yet waits for number i. -/
def Region.lastB (md : Region.Mode) (ops : Array Oper) (listed : Array Bool) (ds : List Nat) (i : Nat) : Bool :=
 ds.all fun d => listed.getD d true || Region.reachB md ops i ops.size d

def ListedClosed (md : Region.Mode) (ops : Array Oper) (listed : Array Bool) : Prop :=
 ∀ j oj, ops[j]? = some oj → listed.getD j false = true → ∀ e ∈ oj.after, Region.binds md e = true → listed.getD e.on false = true

theorem Region.closedB_spec {listed : Array Bool} (h : Region.closedB md ops listed = true) : ListedClosed md ops listed := by
 intro j oj hj hl e he hb
 have hlt : j < ops.size := (Array.getElem?_eq_some_iff.1 hj).1
 have h1 := List.all_eq_true.1 h j (List.mem_range.2 hlt)
 simp only [hl, hj, Bool.not_true, Bool.false_or] at h1
 have h2 := Array.all_eq_true_iff_forall_mem.1 h1 e he
 simpa [hb] using h2

theorem ListedClosed.set {listed : Array Bool} {i : Nat} (h : ListedClosed md ops listed) (hi : i ∈ Region.ready md ops listed) : ListedClosed md ops (listed.setIfInBounds i true) := by
 obtain ⟨_, oi, hoi, hall⟩ := mem_ready.1 hi
 intro j oj hj hl e he hb
 by_cases hij : i = j
 ·subst hij
  have : oj = oi := Option.some.inj (hj.symm.trans hoi)
  subst this
  exact getD_set_true (hall e he hb)
 ·rw [getD_set_ne false hij] at hl
  exact getD_set_true (h j oj hj hl e he hb)

theorem Region.reach_listed {listed : Array Bool} {i : Nat} (hc : ListedClosed md ops listed) : ∀ (fuel d : Nat), Region.reachB md ops i fuel d = true → listed.getD d false = true → listed.getD i false = true
 | 0, _, h, _ => by simp [Region.reachB] at h
 | fuel + 1, d, h, hl => by
  unfold Region.reachB at h
  cases ho : ops[d]? with
  | none => rw [ho] at h; simp at h
  | some o =>
   rw [ho] at h
   obtain ⟨e, he, h1⟩ := Array.any_eq_true'.1 h
   simp only [Bool.and_eq_true, Bool.or_eq_true, beq_iff_eq] at h1
   have hle := hc d o ho hl e he h1.1
   rcases h1.2 with h2 | h2
   ·rw [← h2]; exact hle
   ·exact Region.reach_listed hc fuel e.on h2 hle

/-- What waits for i cannot come up before i is listed. -/
theorem Region.reach_not_ready {listed : Array Bool} {i d fuel : Nat} (hc : ListedClosed md ops listed) (hr : Region.reachB md ops i fuel d = true) (hun : listed.getD i true = false) : d ∉ Region.ready md ops listed := by
 intro hd
 obtain ⟨_, o, ho, hall⟩ := mem_ready.1 hd
 have hi : listed.getD i false = true := by
  cases fuel with
  | zero => simp [Region.reachB] at hr
  | succ n =>
   unfold Region.reachB at hr
   rw [ho] at hr
   obtain ⟨e, he, h1⟩ := Array.any_eq_true'.1 hr
   simp only [Bool.and_eq_true, Bool.or_eq_true, beq_iff_eq] at h1
   have hle := hall e he h1.1
   rcases h1.2 with h2 | h2
   ·rw [← h2]; exact hle
   ·exact Region.reach_listed hc n e.on h2 hle
 rcases Nat.lt_or_ge i listed.size with h' | h'
 ·simp [h'] at hun hi
  rw [hun] at hi
  cases hi
 ·simp [Array.getElem?_eq_none h'] at hun

/-- Whatever order is picked from here on, AND 'S' HOLDS BEHIND EVERY OPERATION THAT IS CARRIED OUT, those of ds apart. -/
def wpAnyLast (P : Program) (md : Region.Mode) (ops : Array Oper) (Q : Exit → Act → World → Prop) (S : World → Prop) (ds : List Nat) : Nat → Array Bool → Act → World → Prop
 | 0, listed, a, w => Region.ready md ops listed = [] ∧ Q .normal a w
 | fuel + 1, listed, a, w =>
  (Region.ready md ops listed = [] → Q .normal a w) ∧
  ∀ i ∈ Region.ready md ops listed, wpOp P ops Q i (fun a' w' => (i ∉ ds → S w → S w') ∧ wpAnyLast P md ops Q S ds fuel (listed.setIfInBounds i true) a' w') a w

theorem wpAny_of_last : ∀ (fuel : Nat) (listed : Array Bool) (a : Act) (w : World), wpAnyLast P md ops Q S ds fuel listed a w → wpAny P md ops Q fuel listed a w
 | 0, _, _, _, h => h
 | fuel + 1, _, _, _, h => ⟨h.1, fun i hi => wpOp_mono (fun a' w' h' => wpAny_of_last fuel _ a' w' h'.2) (h.2 i hi)⟩

theorem wpAnyLast_first {i : Nat} {oi : Oper} {v : Value} (hi : ops[i]? = some oi) (hsel : ∀ (j : Nat) (o : Oper) cs b, ops[j]? = some o → o.op ≠ .select cs b)
    (hQ : ∀ c a w, Q (.panic c) (a.put oi.dst v) w → Q (.panic c) a w) (n : Nat) :
    ∀ (fuel : Nat) (listed : Array Bool) (a : Act) (w : World),
     (∀ j oj, ops[j]? = some oj → j ≠ i → listed.getD j true = false → (∀ e ∈ oj.after, Region.binds md e = true → e.on ≠ i) → oi.apart ops oj = true) →
     ListedClosed md ops listed → (∀ d ∈ ds, listed.getD d true = false → Region.reachB md ops i n d = true) →
     i ∈ Region.ready md ops listed → YieldsIf P ops S oi v a → S w →
     wpAnyLast P md ops Q S ds fuel (listed.setIfInBounds i true) (a.put oi.dst v) w → wpAnyLast P md ops Q S ds (fuel + 1) listed a w := by
 intro fuel
 induction fuel with
 | zero =>
  intro listed a w _ _ _ hr hy hS H
  refine ⟨fun h => (by rw [h] at hr; cases hr), fun j hj => ?_⟩
  by_cases hji : j = i
  ·subst hji; exact hy.wpOp hi hS ⟨fun _ h => h, H⟩
  ·have := ready_mono hj hji
   rw [H.1] at this
   cases this
 | succ fuel ih =>
  intro listed a w hfree hc hd hr hy hS H
  refine ⟨fun h => (by rw [h] at hr; cases hr), fun j hj => ?_⟩
  by_cases hji : j = i
  ·subst hji; exact hy.wpOp hi hS ⟨fun _ h => h, H⟩
  ·have h1 := H.2 j (ready_mono hj hji)
   obtain ⟨hjun, oj, hoj, hall⟩ := mem_ready.1 hj
   have hiun := (mem_ready.1 hr).1
   have hnot : ∀ e ∈ oj.after, Region.binds md e = true → e.on ≠ i := fun e he hb heq => by
    have h1 := hall e he hb
    rw [heq] at h1
    rcases Nat.lt_or_ge i listed.size with h' | h'
    ·simp [h'] at hiun h1; rw [hiun] at h1; cases h1
    ·simp [Array.getElem?_eq_none h'] at h1
   have hjd : j ∉ ds := fun hm => Region.reach_not_ready hc (hd j hm hjun) hiun hj
   have h2 := wpOp_putIf hoj (hfree j oj hoj hji hjun hnot) (fun cs b => hsel i oi cs b hi) (fun cs b => hsel j oj cs b hoj) hQ hy h1
   have hfree' : ∀ k ok, ops[k]? = some ok → k ≠ i → (listed.setIfInBounds j true).getD k true = false →
       (∀ e ∈ ok.after, Region.binds md e = true → e.on ≠ i) → oi.apart ops ok = true := fun k ok hk hki hun hno => by
    refine hfree k ok hk hki ?_ hno
    by_cases hjk : j = k
    ·subst hjk; exact hjun
    ·rw [getD_set_ne true hjk] at hun; exact hun
   have hd' : ∀ d ∈ ds, (listed.setIfInBounds j true).getD d true = false → Region.reachB md ops i n d = true := fun d hm hun => by
    refine hd d hm ?_
    by_cases hjk : j = d
    ·subst hjk; exact hjun
    ·rw [getD_set_ne true hjk] at hun; exact hun
   refine wpOp_mono (fun a' w' h3 => ⟨h3.2.1, ih (listed.setIfInBounds j true) a' w' hfree' (hc.set hj) hd' (ready_mono hr (Ne.symm hji)) h3.1 (h3.2.1 hjd hS) ?_⟩) h2
   rw [Array.setIfInBounds_comm _ _ hji]
   exact h3.2.2

/-- Take number 'i' first, which yields whatever the world: no S is asked for, nor that anything waits for it. -/
theorem wpAnyLast_any {i : Nat} {oi : Oper} {v : Value} (hi : ops[i]? = some oi) (hsel : ∀ (j : Nat) (o : Oper) cs b, ops[j]? = some o → o.op ≠ .select cs b)
    (hQ : ∀ c a w, Q (.panic c) (a.put oi.dst v) w → Q (.panic c) a w) :
    ∀ (fuel : Nat) (listed : Array Bool) (a : Act) (w : World),
     (∀ j oj, ops[j]? = some oj → j ≠ i → listed.getD j true = false → (∀ e ∈ oj.after, Region.binds md e = true → e.on ≠ i) → oi.apart ops oj = true) →
     i ∈ Region.ready md ops listed → Yields P ops oi v a →
     wpAnyLast P md ops Q S ds fuel (listed.setIfInBounds i true) (a.put oi.dst v) w → wpAnyLast P md ops Q S ds (fuel + 1) listed a w := by
 intro fuel
 induction fuel with
 | zero =>
  intro listed a w _ hr hy H
  refine ⟨fun h => (by rw [h] at hr; cases hr), fun j hj => ?_⟩
  by_cases hji : j = i
  ·subst hji; exact (hy.yieldsIf (S := fun _ => True)).wpOp hi trivial ⟨fun _ h => h, H⟩
  ·have := ready_mono hj hji
   rw [H.1] at this
   cases this
 | succ fuel ih =>
  intro listed a w hfree hr hy H
  refine ⟨fun h => (by rw [h] at hr; cases hr), fun j hj => ?_⟩
  by_cases hji : j = i
  ·subst hji; exact (hy.yieldsIf (S := fun _ => True)).wpOp hi trivial ⟨fun _ h => h, H⟩
  ·have h1 := H.2 j (ready_mono hj hji)
   obtain ⟨hjun, oj, hoj, hall⟩ := mem_ready.1 hj
   have hiun := (mem_ready.1 hr).1
   have hnot : ∀ e ∈ oj.after, Region.binds md e = true → e.on ≠ i := fun e he hb heq => by
    have h1 := hall e he hb
    rw [heq] at h1
    rcases Nat.lt_or_ge i listed.size with h' | h'
    ·simp [h'] at hiun h1; rw [hiun] at h1; cases h1
    ·simp [Array.getElem?_eq_none h'] at h1
   have h2 := wpOp_put hoj (hfree j oj hoj hji hjun hnot) (fun cs b => hsel i oi cs b hi) (fun cs b => hsel j oj cs b hoj) hQ hy h1
   have hfree' : ∀ k ok, ops[k]? = some ok → k ≠ i → (listed.setIfInBounds j true).getD k true = false →
       (∀ e ∈ ok.after, Region.binds md e = true → e.on ≠ i) → oi.apart ops ok = true := fun k ok hk hki hun hno => by
    refine hfree k ok hk hki ?_ hno
    by_cases hjk : j = k
    ·subst hjk; exact hjun
    ·rw [getD_set_ne true hjk] at hun; exact hun
   refine wpOp_mono (fun a' w' h3 => ⟨h3.2.1, ih (listed.setIfInBounds j true) a' w' hfree' (ready_mono hr (Ne.symm hji)) h3.1 ?_⟩) h2
   rw [Array.setIfInBounds_comm _ _ hji]
   exact h3.2.2

/-- Take number 'i' first. -/
theorem wpAnyLast_take {i : Nat} {oi : Oper} {v : Value} {fuel : Nat} {listed : Array Bool} {a : Act} {w : World} (hi : ops[i]? = some oi)
    (hs : Region.noSelect ops = true) (hf : Region.free md ops listed i = true) (hr : (Region.ready md ops listed).contains i = true)
    (hc : Region.closedB md ops listed = true) (hl : Region.lastB md ops listed ds i = true)
    (hQ : ∀ c a w, Q (.panic c) (a.put oi.dst v) w → Q (.panic c) a w) (hy : YieldsIf P ops S oi v a) (hS : S w)
    (h : wpAnyLast P md ops Q S ds fuel (listed.setIfInBounds i true) (a.put oi.dst v) w) : wpAnyLast P md ops Q S ds (fuel + 1) listed a w :=
 wpAnyLast_first hi (Region.noSelect_spec hs) hQ ops.size fuel listed a w (Region.free_spec hi hf) (Region.closedB_spec hc)
  (fun d hm hun => by have := List.all_eq_true.1 hl d hm; rw [hun] at this; simpa using this) (by simpa using hr) hy hS h

theorem wpAnyLast_all {rs : List Nat} {fuel : Nat} {listed : Array Bool} {a : Act} {w : World} (hr : Region.ready md ops listed = rs) (hne : rs ≠ [])
    (h : ∀ i ∈ rs, wpOp P ops Q i (fun a' w' => (i ∉ ds → S w → S w') ∧ wpAnyLast P md ops Q S ds fuel (listed.setIfInBounds i true) a' w') a w) : wpAnyLast P md ops Q S ds (fuel + 1) listed a w :=
 ⟨fun h0 => absurd (hr ▸ h0) hne, hr ▸ h⟩

theorem wpAnyLast_done {listed : Array Bool} {a : Act} {w : World} (hr : Region.ready md ops listed = []) (h : Q .normal a w) :
    ∀ fuel, wpAnyLast P md ops Q S ds fuel listed a w
 | 0 => ⟨hr, h⟩
 | _ + 1 => ⟨fun _ => h, by rw [hr]; simp⟩

theorem wp_region_last {id : Nat} {a : Act} {w : World} (hm : P.follows .mixedOrders = true)
    (h : wpAnyLast P .any ops Q S ds ops.size (Array.replicate ops.size false) a { w with drawn := w.drawn + 1 }) : (Code.region id ops true).wp P Q a w :=
 wp_region_any hm (wpAny_of_last _ _ _ _ h)

end

section
variable {P : Program} {ops : Array Oper} {Q : Exit → Act → World → Prop} {md : Region.Mode} {S : World → Prop} {ds : List Nat}

def AllReadyL (P : Program) (md : Region.Mode) (ops : Array Oper) (Q : Exit → Act → World → Prop) (S : World → Prop) (ds : List Nat) (fuel : Nat) (listed : Array Bool) (a : Act) (w : World) (rs : List Nat) : Prop :=
 ∀ i ∈ rs, wpOp P ops Q i (fun a' w' => (i ∉ ds → S w → S w') ∧ wpAnyLast P md ops Q S ds fuel (listed.setIfInBounds i true) a' w') a w
theorem AllReadyL.nil {fuel : Nat} {listed : Array Bool} {a : Act} {w : World} : AllReadyL P md ops Q S ds fuel listed a w [] := fun _ h => by cases h
theorem AllReadyL.cons {fuel : Nat} {listed : Array Bool} {a : Act} {w : World} {i : Nat} {o : Oper} {rs : List Nat} (ho : ops[i]? = some o) (hd : i ∉ ds)
    (h : ∀ K' : Act → World → Prop, Shut (∀ a w, S w → (S w → wpAnyLast P md ops Q S ds fuel (listed.setIfInBounds i true) a w) → K' a w) → if Region.wanted o (yielded ops a.tmps) = true then Oper.wp P o a w K' Q else K' (a.put o.dst undef) w)
    (hs : AllReadyL P md ops Q S ds fuel listed a w rs) : AllReadyL P md ops Q S ds fuel listed a w (i :: rs) := fun j hj => by
 rcases List.mem_cons.1 hj with rfl | hj
 ·exact wpOp_step ho (fun K' hK => h K' (fun a w hS hW => hK a w ⟨fun _ _ => hS, hW hS⟩))
 ·exact hs j hj
/-- Behind an operation of ds nothing is shown. -/
theorem AllReadyL.cons_last {fuel : Nat} {listed : Array Bool} {a : Act} {w : World} {i : Nat} {o : Oper} {rs : List Nat} (ho : ops[i]? = some o) (hd : i ∈ ds)
    (h : ∀ K' : Act → World → Prop, Shut (∀ a w, wpAnyLast P md ops Q S ds fuel (listed.setIfInBounds i true) a w → K' a w) → if Region.wanted o (yielded ops a.tmps) = true then Oper.wp P o a w K' Q else K' (a.put o.dst undef) w)
    (hs : AllReadyL P md ops Q S ds fuel listed a w rs) : AllReadyL P md ops Q S ds fuel listed a w (i :: rs) := fun j hj => by
 rcases List.mem_cons.1 hj with rfl | hj
 ·exact wpOp_step ho (fun K' hK => h K' (fun a w hW => hK a w ⟨fun hn => absurd hd hn, hW⟩))
 ·exact hs j hj
theorem wpAnyLast_ready {rs : List Nat} {fuel : Nat} {listed : Array Bool} {a : Act} {w : World} (hr : Region.ready md ops listed = rs) (hne : rs ≠ [])
    (h : AllReadyL P md ops Q S ds fuel listed a w rs) : wpAnyLast P md ops Q S ds (fuel + 1) listed a w := wpAnyLast_all hr hne h
/-- THE SAME STEPS WITH WHAT HAS COME UP WRITTEN OUT (a literal array of Bools) and one check a step: quicker, and what is printed stays short. -/
theorem start_ {id n : Nat} {a : Act} {w : World} (l : Array Bool) (hm : P.follows .mixedOrders = true) (hn : ops.size = n) (hl : Array.replicate n false = l) (hS : S w.drew)
    (h : S w.drew → wpAnyLast P .any ops Q S ds n l a w.drew) : (Code.region id ops true).wp P Q a w := by
 subst hn
 subst hl
 exact wp_region_last hm (h hS)
def takeB (md : Region.Mode) (ops : Array Oper) (ds : List Nat) (l l' : Array Bool) (i : Nat) : Bool :=
 Region.noSelect ops && Region.free md ops l i && (Region.ready md ops l).contains i && Region.closedB md ops l && Region.lastB md ops l ds i && (l.setIfInBounds i true == l')
theorem take_ {i : Nat} {N : Option Tmp} {oi : Oper} {v : Value} {fuel : Nat} {l : Array Bool} {a : Act} {w : World} (l' : Array Bool) (hi : ops[i]? = some oi) (hN : oi.dst = N) (hc : takeB md ops ds l l' i = true)
    (hQ : ∀ c a w, Q (.panic c) (a.put oi.dst v) w → Q (.panic c) a w) (hy : YieldsIf P ops S oi v a) (hS : S w) {a' : Act} (ha : a.put N v = a')
    (h : wpAnyLast P md ops Q S ds fuel l' a' w) : wpAnyLast P md ops Q S ds (fuel + 1) l a w := by
 subst ha
 subst hN
 simp only [takeB, Bool.and_eq_true, beq_iff_eq] at hc
 obtain ⟨⟨⟨⟨⟨h1, h2⟩, h3⟩, h4⟩, h5⟩, h6⟩ := hc
 subst h6
 exact wpAnyLast_take hi h1 h2 h3 h4 h5 hQ hy hS h
def anyB (md : Region.Mode) (ops : Array Oper) (l l' : Array Bool) (i : Nat) : Bool :=
 Region.noSelect ops && Region.free md ops l i && (Region.ready md ops l).contains i && (l.setIfInBounds i true == l')
/-- An operation that yields in every world (a move, a number, an address): taken first wherever it may come up, behind a store too. -/
theorem pure_ {i : Nat} {N : Option Tmp} {oi : Oper} {v : Value} {fuel : Nat} {l : Array Bool} {a : Act} {w : World} (l' : Array Bool) (hi : ops[i]? = some oi) (hN : oi.dst = N) (hc : anyB md ops l l' i = true)
    (hQ : ∀ c a w, Q (.panic c) (a.put oi.dst v) w → Q (.panic c) a w) (hy : Yields P ops oi v a) {a' : Act} (ha : a.put N v = a')
    (h : wpAnyLast P md ops Q S ds fuel l' a' w) : wpAnyLast P md ops Q S ds (fuel + 1) l a w := by
 subst ha
 subst hN
 simp only [anyB, Bool.and_eq_true, beq_iff_eq] at hc
 obtain ⟨⟨⟨h1, h2⟩, h3⟩, h6⟩ := hc
 subst h6
 exact wpAnyLast_any hi (Region.noSelect_spec h1) hQ fuel l a w (Region.free_spec hi h2) (by simpa using h3) hy h
def readyB (md : Region.Mode) (ops : Array Oper) (l l' : Array Bool) (i : Nat) : Bool := (Region.ready md ops l == [i]) && (l.setIfInBounds i true == l')
/-- One operation alone may come up now (a call, a build, an append ..): it is run, S is shown behind it. -/
theorem one_ {i : Nat} {N : Option Tmp} {oi : Oper} {fuel : Nat} {l : Array Bool} {a : Act} {w : World} (l' : Array Bool) (hi : ops[i]? = some oi) (hN : oi.dst = N) (hc : readyB md ops l l' i = true) (hd : i ∉ ds)
    (h : ∀ K : Act → World → Prop, Shut (∀ a' w', S w' → (S w' → wpAnyLast P md ops Q S ds fuel l' a' w') → K a' w') → if Region.wanted oi (yielded ops a.tmps) = true then Oper.wp P oi a w K Q else K (a.put N undef) w) :
    wpAnyLast P md ops Q S ds (fuel + 1) l a w := by
 subst hN
 simp only [readyB, Bool.and_eq_true, beq_iff_eq] at hc
 obtain ⟨h1, h2⟩ := hc
 subst h2
 exact wpAnyLast_ready h1 (by simp) (AllReadyL.cons hi hd (fun K hK => h K hK) AllReadyL.nil)
/-- The same for one of ds: nothing is shown behind it. -/
theorem last_ {i : Nat} {N : Option Tmp} {oi : Oper} {fuel : Nat} {l : Array Bool} {a : Act} {w : World} (l' : Array Bool) (hi : ops[i]? = some oi) (hN : oi.dst = N) (hc : readyB md ops l l' i = true) (hd : i ∈ ds)
    (h : ∀ K : Act → World → Prop, Shut (∀ a' w', wpAnyLast P md ops Q S ds fuel l' a' w' → K a' w') → if Region.wanted oi (yielded ops a.tmps) = true then Oper.wp P oi a w K Q else K (a.put N undef) w) :
    wpAnyLast P md ops Q S ds (fuel + 1) l a w := by
 subst hN
 simp only [readyB, Bool.and_eq_true, beq_iff_eq] at hc
 obtain ⟨h1, h2⟩ := hc
 subst h2
 exact wpAnyLast_ready h1 (by simp) (AllReadyL.cons_last hi hd (fun K hK => h K hK) AllReadyL.nil)
theorem done_ {l : Array Bool} {a : Act} {w : World} {n : Nat} (hr : (Region.ready md ops l == []) = true) (h : Q .normal a w) : wpAnyLast P md ops Q S ds n l a w := wpAnyLast_done (by simpa using hr) h n
theorem two_ {i j : Nat} {Ni Nj : Option Tmp} {oi oj : Oper} {fuel : Nat} {l : Array Bool} {a : Act} {w : World} (li lj : Array Bool) (hi : ops[i]? = some oi) (hj : ops[j]? = some oj) (hNi : oi.dst = Ni) (hNj : oj.dst = Nj)
    (hc : (Region.ready md ops l == [i, j] && l.setIfInBounds i true == li && l.setIfInBounds j true == lj) = true) (hdi : i ∉ ds) (hdj : j ∉ ds)
    (h1 : ∀ K : Act → World → Prop, Shut (∀ a' w', S w' → (S w' → wpAnyLast P md ops Q S ds fuel li a' w') → K a' w') → if Region.wanted oi (yielded ops a.tmps) = true then Oper.wp P oi a w K Q else K (a.put Ni undef) w)
    (h2 : ∀ K : Act → World → Prop, Shut (∀ a' w', S w' → (S w' → wpAnyLast P md ops Q S ds fuel lj a' w') → K a' w') → if Region.wanted oj (yielded ops a.tmps) = true then Oper.wp P oj a w K Q else K (a.put Nj undef) w) :
    wpAnyLast P md ops Q S ds (fuel + 1) l a w := by
 subst hNi
 subst hNj
 simp only [Bool.and_eq_true, beq_iff_eq] at hc
 obtain ⟨⟨h3, h4⟩, h5⟩ := hc
 subst h4
 subst h5
 exact wpAnyLast_ready h3 (by simp) (AllReadyL.cons hi hdi (fun K hK => h1 K hK) (AllReadyL.cons hj hdj (fun K hK => h2 K hK) AllReadyL.nil))
/-- The act with some destinations filled. -/
def putAll : Act → List (Tmp × Value) → Act
 | a, [] => a
 | a, (n, v) :: r => putAll (a.put (some n) v) r
/-- What follows, once: s the values that the orders leave, F what is known of them and of the world. -/
theorem join_ {σ : Type} {fuel : Nat} {l : Array Bool} {a : Act} {w : World} (fuel' : Nat) (l' : Array Bool) (ns : σ → List (Tmp × Value)) (F : σ → World → Prop)
    (hcont : ∀ s w', F s w' → wpAnyLast P md ops Q S ds fuel' l' (putAll a (ns s)) w')
    (h : (∀ s w', F s w' → wpAnyLast P md ops Q S ds fuel' l' (putAll a (ns s)) w') → wpAnyLast P md ops Q S ds fuel l a w) : wpAnyLast P md ops Q S ds fuel l a w := h hcont
/-- The act written out. -/
theorem norm_ {fuel : Nat} {l : Array Bool} {a a' : Act} {w : World} (ha : a = a') (h : wpAnyLast P md ops Q S ds fuel l a' w) : wpAnyLast P md ops Q S ds fuel l a w := by
 subst ha
 exact h
/-- A call of a Go function, by its contract. -/
theorem call_ {oi : Oper} {N : Option Tmp} {a : Act} {w : World} {K : Act → World → Prop} (f : FuncId) (args : Array Value) (hw : Region.wanted oi (yielded ops a.tmps) = true) (hN : oi.dst = N) (hrun : (execOp a.eval oi).run P w = .ok (.enter f args) w)
    (h : Calls P f args w fun e w' => ∃ v, e = .returned v ∧ K (a.put N v) w') : if Region.wanted oi (yielded ops a.tmps) = true then Oper.wp P oi a w K Q else K (a.put N undef) w := by
 rw [if_pos hw]
 subst hN
 unfold Oper.wp
 rw [hrun, Oper.upon_enter]
 refine h.mono fun e w'' hh => ?_
 obtain ⟨v, rfl, hk⟩ := hh
 exact hk
theorem enters_ {f : FuncId} {fn : Func} (hf : P.funcs[f]? = some fn) (hname : (fn.name == "runtime.NumGoroutine") = false) (hb : fn.body.isSome = true) (args : Array Value) (w : World) : (callFunc f args).run P w = .ok (.enter f args) w := by
 have h1 : fn.name ≠ "runtime.NumGoroutine" := by simpa using hname
 obtain ⟨c, hc⟩ := Option.isSome_iff_exists.1 hb
 simp [callFunc, hf, h1, hc]
/-- The same, the operation's run shown here: 'goes_ A.func3 (by kernel_rfl) rfl #[..] (by rfl) rfl rfl (by rfl) ?_'. -/
theorem goes_ {oi : Oper} {N : Option Tmp} {a : Act} {w : World} {K : Act → World → Prop} {f : FuncId} {fn : Func} {as : Array Operand} {ts : Array TypeId} (hf : P.funcs[f]? = some fn) (hname : (fn.name == "runtime.NumGoroutine") = false) (hb : fn.body.isSome = true) (args : Array Value)
    (hw : Region.wanted oi (yielded ops a.tmps) = true) (hN : oi.dst = N) (hop : oi.op = .call { callee := .value (.func f), args := as, argTypes := ts }) (hargs : as.map a.eval = args)
    (h : Calls P f args w fun e w' => ∃ v, e = .returned v ∧ K (a.put N v) w') : if Region.wanted oi (yielded ops a.tmps) = true then Oper.wp P oi a w K Q else K (a.put N undef) w := by
 refine call_ f args hw hN ?_ h
 have he := enters_ hf hname hb args w
 unfold execOp
 simp [hop, resolve, Deferred.ofValue, invoke, Act.eval, hargs, he]
/-- A call in a plain region, as an arm of go_wp2_with ('hd' first: it fails at once at another operation). -/
theorem goesL_ {rest : List Oper} {oi : Oper} {a : Act} {w : World} (N : Option Tmp) (hd : oi.dst = N) (hg : oi.guard = none) {f : FuncId} {fn : Func} {as : Array Operand} {ts : Array TypeId} (hf : P.funcs[f]? = some fn) (hname : (fn.name == "runtime.NumGoroutine") = false) (hb : fn.body.isSome = true) (args : Array Value)
    (hop : oi.op = .call { callee := .value (.func f), args := as, argTypes := ts }) (hargs : as.map a.eval = args)
    (h : Calls P f args w fun e w' => ∃ v, e = .returned v ∧ wpList P ops Q rest (a.put N v) w') : wpList P ops Q (oi :: rest) a w := by
 refine wpList_plain hg fun K hK => ?_
 have he := enters_ hf hname hb args w
 have hrun : (execOp a.eval oi).run P w = .ok (.enter f args) w := by
  unfold execOp
  simp [hop, resolve, Deferred.ofValue, invoke, Act.eval, hargs, he]
 unfold Oper.wp
 rw [hrun, Oper.upon_enter]
 refine h.mono fun e w'' hh => ?_
 obtain ⟨v, rfl, hk⟩ := hh
 subst hd
 exact hK _ _ hk
/-- An operation that yields a value (and may make memory). -/
theorem value_ {oi : Oper} {N : Option Tmp} {a : Act} {w w1 : World} {v : Value} {K : Act → World → Prop} (hw : Region.wanted oi (yielded ops a.tmps) = true) (hN : oi.dst = N) (hrun : (execOp a.eval oi).run P w = .ok (.value v) w1)
    (h : K (a.put N v) w1) : if Region.wanted oi (yielded ops a.tmps) = true then Oper.wp P oi a w K Q else K (a.put N undef) w := by
 rw [if_pos hw]
 subst hN
 unfold Oper.wp
 rw [hrun]
 exact h
theorem i64_w (n : Int) : IntKind.i64.wrap n = Go.RowKit.wrap64 n := by unfold Go.RowKit.wrap64; exact IntKind.wrap_i64 n
theorem i32_w (n : Int) : IntKind.i32.wrap n = Go.RowKit.wrap32 n := by unfold Go.RowKit.wrap32; exact IntKind.wrap_i32 n
end
end Go.Proofs.YtjlciehcddanpaaW.PrintLast
end
section
namespace Go.Proofs.YtjlciehcddanpaaW.PrintWords
open Go.RowKit
namespace Kd
/-- An element with its index: its blocks are those that f gives to it. -/
def tag {α : Type} (f : Nat → Nat) (d : Kd α) : Kd (α × Nat) where
 sz := d.sz
 E := d.E
 K := fun w x cs => d.K w x.1 cs
 M := fun w base ok x cs => d.M w base (fun k => ok k ∧ f k = x.2) x.1 cs
 K_len := fun h => d.K_len h
 K_one := fun h => d.K_one h
 K_below := fun hb h => d.K_below hb h
 K_of_M := fun h => d.K_of_M h
 M_mono := fun hok h => d.M_mono (fun k hk => ⟨hok k hk.1, hk.2⟩) h
 M_bound := fun h => d.M_mono (fun _ hk => ⟨⟨hk.1.1, hk.2⟩, hk.1.2⟩) (d.M_bound h)
 M_move := fun hm h => d.M_move (fun k hk => hm k hk.1) h
 M_lower := fun hb h => d.M_lower hb h
/-- The cells themselves. -/
def raw (sz : Nat) : Kd (List Value) where
 sz := sz
 E := []
 K := fun _ x cs => cs = x ∧ cs.length = sz ∧ ∀ u ∈ cs, u.oneCell' = true
 M := fun _ _ _ x cs => cs = x ∧ cs.length = sz ∧ ∀ u ∈ cs, u.oneCell' = true
 K_len := fun h => h.2.1
 K_one := fun h => h.2.2
 K_below := fun _ h => h
 K_of_M := fun h => h
 M_mono := fun _ h => h
 M_bound := fun h => h
 M_move := fun _ h => h
 M_lower := fun _ h => h
/-- A row of elements (type e) of the call's own, no two of which lead to one block. -/
def S {α : Type} (d : Kd α) (e : Nat) (w : World) (base : Nat) (ok : Nat → Prop) (v : Value) (xs : List α) : Prop := ∃ f, (tag f d).R e w base ok v xs.zipIdx
section
variable {α β : Type} {d : Kd α} {d' : Kd β} {e e' : Nat} {w w1 W : World} {base b : Nat} {ok ok' okv oku : Nat → Prop} {u v : Value} {xs : List α} {ys : List β}
end
section
variable {α β : Type} {d : Kd α} {d' : Kd β} {e e' g : Nat} {w w1 W : World} {base b : Nat} {ok ok' okv oku : Nat → Prop} {u v : Value} {xs : List α} {ys : List β}
end
section
open Classical in
variable {P : Program} {ops : Array Oper} {rest : List Oper} {o : Oper} {a : Act} {Q : Exit → Act → World → Prop} {Kc : Act → World → Prop} {α : Type}
end
/-- Element i is these cells; the others are d's. -/
def gap {α : Type} (f : Nat → Nat) (d : Kd α) (i : Nat) (c : List Value) : Kd (α × Nat) where
 sz := d.sz
 E := d.E
 K := fun w x cs => (x.2 = i → cs = c ∧ cs.length = d.sz ∧ ∀ u ∈ cs, u.oneCell' = true) ∧ (x.2 ≠ i → d.K w x.1 cs)
 M := fun w base ok x cs => (x.2 = i → cs = c ∧ cs.length = d.sz ∧ ∀ u ∈ cs, u.oneCell' = true) ∧ (x.2 ≠ i → d.M w base (fun k => ok k ∧ f k = x.2) x.1 cs)
 K_len := fun {w x cs} h => by
  by_cases hx : x.2 = i
  ·exact (h.1 hx).2.1
  ·exact d.K_len (h.2 hx)
 K_one := fun {w x cs} h => by
  by_cases hx : x.2 = i
  ·exact (h.1 hx).2.2
  ·exact d.K_one (h.2 hx)
 K_below := fun hb h => ⟨h.1, fun hx => d.K_below hb (h.2 hx)⟩
 K_of_M := fun h => ⟨h.1, fun hx => d.K_of_M (h.2 hx)⟩
 M_mono := fun hok h => ⟨h.1, fun hx => d.M_mono (fun k hk => ⟨hok k hk.1, hk.2⟩) (h.2 hx)⟩
 M_bound := fun h => ⟨h.1, fun hx => d.M_mono (fun _ hk => ⟨⟨hk.1.1, hk.2⟩, hk.1.2⟩) (d.M_bound (h.2 hx))⟩
 M_move := fun hm h => ⟨h.1, fun hx => d.M_move (fun k hk => hm k hk.1) (h.2 hx)⟩
 M_lower := fun hb h => ⟨h.1, fun hx => d.M_lower hb (h.2 hx)⟩
def H {α : Type} (d : Kd α) (e : Nat) (w : World) (base : Nat) (ok : Nat → Prop) (v : Value) (xs : List α) (i : Int) (oki : Nat → Prop) (c : List Value) : Prop :=
 (∀ k, oki k → ok k) ∧ ∃ f, (gap f d i.toNat c).R e w base (fun k => ok k ∧ ¬ oki k) v xs.zipIdx
section
variable {α β : Type} {d : Kd α} {e e' g n cap : Nat} {w w1 W : World} {base : Nat} {ok ok' oki okp : Nat → Prop} {u v : Value} {xs : List α} {i : Int} {c : List Value}
open Classical in
end
section
variable {P : Program} {ops : Array Oper} {rest : List Oper} {o : Oper} {a : Act} {Q : Exit → Act → World → Prop} {α : Type}
end
end Kd
end Go.Proofs.YtjlciehcddanpaaW.PrintWords
end
section
namespace Go.Proofs.YtjlciehcddanpaaW.PrintWords
open Go.RowKit
namespace Kd
/-- What a kind reads lies in the blocks: nothing else of the world is looked at. -/
structure Heap {α : Type} (d : Kd α) : Prop where
 K : ∀ {w w1 : World} {x : α} {cs : List Value}, (∀ k, k < w.heap.size → w1.heap[k]? = w.heap[k]?) → d.K w x cs → d.K w1 x cs
theorem cell_heap {w w1 : World} (hb : ∀ k, k < w.heap.size → w1.heap[k]? = w.heap[k]?) {a : Addr} {v : Value} (h : w.cell? a = some v) : w1.cell? a = some v := by
 have := hb a.block (World.block_lt_of_cell? w a h)
 simpa [World.cell?, this] using h
theorem Heap.C {α : Type} {d : Kd α} (hd : Heap d) {w w1 : World} {A : Option Addr} {n : Nat} {xs : List α} (hb : ∀ k, k < w.heap.size → w1.heap[k]? = w.heap[k]?) (h : d.C w A n xs) : d.C w1 A n xs :=
 ⟨h.1, h.2.1, fun hn => by
  obtain ⟨ad, e, hc⟩ := h.2.2 hn
  refine ⟨ad, e, fun j p hj => ?_⟩
  obtain ⟨c, hs, hr, hcell⟩ := hc j p hj
  exact ⟨c, hs, hd.K hb hr, fun i u hu => cell_heap hb (hcell i u hu)⟩⟩
section
variable {α : Type} {d : Kd α} {e base g n c : Nat} {ok : Nat → Prop} {w w0 W : World} {A : Option Addr} {xs : List α}
end
end Kd
end Go.Proofs.YtjlciehcddanpaaW.PrintWords
end
section
namespace Go.Proofs.YtjlciehcddanpaaW.PrintWords
open Go.RowKit
/-- P holds in W and in every world that has W's blocks of ok. -/
def Foot (P : World → Prop) (W : World) (ok : Nat → Prop) : Prop := ∀ W' : World, (∀ k, ok k → k < W.heap.size → W'.heap[k]? = W.heap[k]?) → P W'
namespace Foot
variable {P Q : World → Prop} {W W1 : World} {ok ok' : Nat → Prop}
theorem imp (h : Foot P W ok) (hi : ∀ W', P W' → Q W') : Foot Q W ok := fun W' hW => hi W' (h W' hW)
end Foot
namespace Kd
/-- A row that is only read: what it leads to lies in ok. -/
def F {α : Type} (d : Kd α) (W : World) (ok : Nat → Prop) (A : Option Addr) (n : Nat) (xs : List α) : Prop := Foot (fun W => d.C W A n xs) W ok
/-- An element's cells: what they lead to lies in ok. -/
def FK {α : Type} (d : Kd α) (W : World) (ok : Nat → Prop) (x : α) (c : List Value) : Prop := Foot (fun W => d.K W x c) W ok
section
variable {α β : Type} {d : Kd α} {e base n n' cc g N : Nat} {ok ok' okp S : Nat → Prop} {w w0 w1 W W1 : World} {A A' : Option Addr} {u v v1 : Value} {xs : List α} {xs' : List β} {d' : Kd β} {x : α} {c : List Value}
end
end Kd
end Go.Proofs.YtjlciehcddanpaaW.PrintWords
end
section
namespace Go.Proofs.YtjlciehcddanpaaW.PrintWords
open Go.RowKit
namespace Kd
section
variable {α : Type} {d : Kd α} {e base n cc g : Nat} {ok ok' okp S : Nat → Prop} {w w1 W W1 : World} {A : Option Addr} {u v v1 : Value} {xs : List α} {x : α} {c : List Value}
/-- A row of elements (type e) of the call's own; what the elements lead to is only read, and is not this row. -/
def N {α : Type} (d : Kd α) (e : Nat) (w : World) (base : Nat) (ok : Nat → Prop) (v : Value) (xs : List α) : Prop :=
 (∀ k, v.ownBlock = some k → ok k) ∧ ∃ rows : List (List Value), rows.length = xs.length ∧ (raw d.sz).R e w base (fun k => some k = v.ownBlock) v rows ∧ ∀ (j : Nat) (x : α) (c : List Value), xs[j]? = some x → rows[j]? = some c → FK d w (fun k => ok k ∧ some k ≠ v.ownBlock) x c
end
end Kd
end Go.Proofs.YtjlciehcddanpaaW.PrintWords
end
section
namespace Go.Proofs.YtjlciehcddanpaaW.PrintWords
open Go.RowKit
section
variable {P : Program} {d : Nat} {xs ys : Array Value} {f : Field} {fs : List Field} {a b : Value} {r s : Bool} {w : World}
/-- The last field that counts. -/
theorem eqf_last (hn : (f.name == "_") = false) (ha : (part f.type xs f.offset).run P w = .ok a w) (hb : (part f.type ys f.offset).run P w = .ok b w) (he : (Op.equalIn d f.type a b).run P w = .ok r w) : (Op.eqFields d xs ys [f]).run P w = .ok r w := by
 have hn' : f.name ≠ "_" := by simpa using hn
 simp only [Op.eqFields, if_pos hn', Sem.run_bind, ha, hb, he, Result.andThen_ok]
 cases r <;> simp
theorem eqf_cons (hn : (f.name == "_") = false) (ha : (part f.type xs f.offset).run P w = .ok a w) (hb : (part f.type ys f.offset).run P w = .ok b w) (he : (Op.equalIn d f.type a b).run P w = .ok r w) (hr : (Op.eqFields d xs ys fs).run P w = .ok s w) : (Op.eqFields d xs ys (f :: fs)).run P w = .ok (r && s) w := by
 have hn' : f.name ≠ "_" := by simpa using hn
 rw [Op.eqFields]
 simp only [if_pos hn', Sem.run_bind, ha, hb, he, Result.andThen_ok]
 cases r
 ·simp
 ·simpa using hr
theorem eqA_of {t : TypeId} {fs : Array Field} (hu : P.underlying t = some (.struct fs)) (hp : P.stoodInHeld t = false) (h : (Op.eqFields d xs ys fs.toList).run P w = .ok r w) : (Op.equalIn (d + 1) t (.agg xs) (.agg ys)).run P w = .ok r w := by
 have hf : P.fieldsOf t = fs := by simp [Program.fieldsOf, hu]
 rw [run_equalIn_struct (P := P) w d t xs ys (by rw [hf]; exact hu) hp, hf]
 exact h
end
end Go.Proofs.YtjlciehcddanpaaW.PrintWords
end
section
namespace Go.Proofs.YtjlciehcddanpaaW.PrintLast
/-- Number i is listed too. -/
def up (b : Nat → Bool) (i : Nat) : Nat → Bool := fun j => if j = i then true else b j
section
variable {P : Program} {ops : Array Oper} {Q : Exit → Act → World → Prop} {md : Region.Mode} {T : Bool × List (List Nat × List Nat)} {B : List Nat} {O : List Nat} {b : Nat → Bool} {i j n : Nat}
end
end Go.Proofs.YtjlciehcddanpaaW.PrintLast
end
section
namespace Go.Proofs.YtjlciehcddanpaaW.PrintWords
open Go.RowKit
section
variable {P : Program} {ops : Array Oper} {rest : List Oper} {o : Oper} {a : Act} {Q : Exit → Act → World → Prop} {W : World}
/-- The gate takes the guard off (hw: 'by rfl', 'by kernel_rfl': the guard's slot holds what is wanted). -/
theorem gate_guard (hw : Region.wanted o (yielded ops a.tmps) = true) (h : wpList P ops Q ({ o with guard := none } :: rest) a W) : wpList P ops Q (o :: rest) a W := by
 have h1 : Region.wanted { o with guard := none } (yielded ops a.tmps) = true := rfl
 unfold wpList at h ⊢
 rw [if_pos h1] at h
 rw [if_pos hw]
 exact h
end
end Go.Proofs.YtjlciehcddanpaaW.PrintWords
end
section
-- PRINTED WORDS (module Derived/Print/More.lean): go-gate-2's additions: an AI agent of Go's test side, Tue Nov 17 2026; no person has read it. Lean checks it.
namespace Go.Proofs.YtjlciehcddanpaaW.PrintMore
open Go.RowKit Go.Proofs.YtjlciehcddanpaaW.PrintWords
namespace Kd
open Go.Proofs.YtjlciehcddanpaaW.PrintWords.Kd
/-- Element i of a row of one's own, lent: its cells and what it leads to, as the row has them. -/
theorem R_get {α : Type} {d : Kd α} {e base n cap : Nat} {ok : Nat → Prop} {W : World} {ad : Addr} {xs : List α} (h : d.R e W base ok (.slice (some ad) n cap) xs) (z : α) (i : Int) (h0 : 0 ≤ i) (h1 : i < n) :
    ∃ c, c.length = d.sz ∧ d.M W base (fun k => ok k ∧ some k ≠ (Value.slice (some ad) n cap).ownBlock) (xs.getD i.toNat z) c ∧ ∀ j u, c[j]? = some u → W.cell? (ad.add (i.toNat * d.sz + j)) = some u := by
 obtain ⟨g, hg⟩ : ∃ g, ad = ⟨g, 0, none⟩ := by
  obtain ⟨_, inner, ho, _⟩ := h
  rcases ho.2 with ⟨hv, _⟩ | ⟨g, cap', cur, hv, _⟩
  ·cases hv
  ·injection hv with ha _ _
   injection ha with ha
   exact ⟨g, ha⟩
 subst hg
 obtain ⟨c, hcl, hM, hcc, _⟩ := R_elem h z i h0 h1
 refine ⟨c, hcl, d.M_mono (fun k hk => ⟨hk.1, fun he => hk.2 ?_⟩) hM, fun j u hu => ?_⟩
 ·rw [add_at, Nat.zero_add]
  exact hcc j u hu
 ·simpa [Value.ownBlock] using he
end Kd

namespace Kd
open Go.Proofs.YtjlciehcddanpaaW.PrintWords.Kd
section
variable {α : Type} {d : Kd α} {e base g N : Nat} {ok : Nat → Prop} {W w1 : World} {u v : Value} {xs : List α}
end
end Kd
/-- 'max' and 'min' of two whole numbers. -/
theorem max2_int (k k' : IntKind) (x y : Int) : Builtin.max2 (.int k x) (.int k' y) = pure (.int k (if x < y then y else x)) := by simp only [Builtin.max2, gt_iff_lt]
theorem min2_int (k k' : IntKind) (x y : Int) : Builtin.min2 (.int k x) (.int k' y) = pure (.int k (if y < x then y else x)) := by simp only [Builtin.min2]
theorem max_two (ats : Array TypeId) (ty : TypeId) (a b : Value) : Builtin.max_ ats ty #[a, b] = (Builtin.max2 a b >>= fun s => pure s) := by simp only [Builtin.max_, List.foldlM_cons, List.foldlM_nil]
theorem min_two (ats : Array TypeId) (ty : TypeId) (a b : Value) : Builtin.min_ ats ty #[a, b] = (Builtin.min2 a b >>= fun s => pure s) := by simp only [Builtin.min_, List.foldlM_cons, List.foldlM_nil]
theorem max_three (ats : Array TypeId) (ty : TypeId) (a b c : Value) : Builtin.max_ ats ty #[a, b, c] = (Builtin.max2 a b >>= fun s => Builtin.max2 s c >>= fun s => pure s) := by simp only [Builtin.max_, List.foldlM_cons, List.foldlM_nil]
theorem min_three (ats : Array TypeId) (ty : TypeId) (a b c : Value) : Builtin.min_ ats ty #[a, b, c] = (Builtin.min2 a b >>= fun s => Builtin.min2 s c >>= fun s => pure s) := by simp only [Builtin.min_, List.foldlM_cons, List.foldlM_nil]
theorem max_four (ats : Array TypeId) (ty : TypeId) (a b c d : Value) : Builtin.max_ ats ty #[a, b, c, d] = (Builtin.max2 a b >>= fun s => Builtin.max2 s c >>= fun s => Builtin.max2 s d >>= fun s => pure s) := by simp only [Builtin.max_, List.foldlM_cons, List.foldlM_nil]
theorem min_four (ats : Array TypeId) (ty : TypeId) (a b c d : Value) : Builtin.min_ ats ty #[a, b, c, d] = (Builtin.min2 a b >>= fun s => Builtin.min2 s c >>= fun s => Builtin.min2 s d >>= fun s => pure s) := by simp only [Builtin.min_, List.foldlM_cons, List.foldlM_nil]
end Go.Proofs.YtjlciehcddanpaaW.PrintMore
namespace Go.Proofs.YtjlciehcddanpaaW.PrintWords
open Go.RowKit
section
variable {P : Program} {ops : Array Oper} {rest : List Oper} {o : Oper} {a : Act} {Q : Exit → Act → World → Prop} {W : World}
/-- The operation is a call of this function (a cheap look ahead of a dear step). -/
theorem gate_callee {f : FuncId} {as : Array Operand} {ts : Array TypeId} (_ho : o.op = .call { callee := .value (.func f), args := as, argTypes := ts }) (h : wpList P ops Q (o :: rest) a W) : wpList P ops Q (o :: rest) a W := h
/-- The operation is a builtin over these places. -/
theorem gate_builtin {b : Builtin} {xs : Array Operand} {ts : Array TypeId} (_ho : o.op = .call { callee := .builtin b, args := xs, argTypes := ts }) (h : wpList P ops Q (o :: rest) a W) : wpList P ops Q (o :: rest) a W := h
end
namespace Kd
section
variable {α : Type} {d : Kd α} {e base : Nat} {ok : Nat → Prop} {W w1 : World} {v : Value} {xs : List α}
end
section
variable {α : Type} {d : Kd α} {e base g n cap : Nat} {ok oki okp : Nat → Prop} {W : World} {xs : List α} {i : Int} {c : List Value}
end
section
variable {α : Type} {d : Kd α} {e base b b' g N : Nat} {ok ok1 : Nat → Prop} {W W2 w1 : World} {u v : Value} {xs ys : List α} {S : Nat → Prop}
end
end Kd
end Go.Proofs.YtjlciehcddanpaaW.PrintWords
namespace Go.Proofs.YtjlciehcddanpaaW.PrintWords
open Go.RowKit
namespace Kd
section
variable {α β : Type} {d : Kd α} {e base base' n m c g N' lo hi : Nat} {ok ok' S : Nat → Prop} {w W w1 : World} {A : Option Addr} {ad : Addr} {u v v1 : Value} {xs : List α}
end
end Kd
end Go.Proofs.YtjlciehcddanpaaW.PrintWords
end
