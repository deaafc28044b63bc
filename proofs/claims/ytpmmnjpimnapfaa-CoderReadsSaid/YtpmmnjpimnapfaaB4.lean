import Derived.Test.YtpmmnjpimnapfaaB3
set_option linter.unusedVariables false
set_option linter.unusedSimpArgs false
namespace Go.Proofs.Ytpmmnjpimnapfaa.A
open Go.RowKit Go.Proofs.YtpmmnjpimnapfaaW.PrintWords Go.Proofs.YtpmmnjpimnapfaaW.PrintLast Go.Proofs.YtpmmnjpimnapfaaW.PrintMore

theorem par_lt2 (l : List Nat) : ∀ i, gt (par l) i < 2 := by
  intro i
  unfold gt par
  rw [List.getD_eq_getElem?_getD, List.getElem?_map]
  cases l[i]? with
  | none => simp
  | some x => simp; omega
theorem putAll_par (l : List Nat) : ∀ bs n, putAll bs n (par l) = putAll bs n l := by
  induction l with
  | nil => intro bs n; rfl
  | cons x l ih =>
    intro bs n
    have h : putBit bs n (x % 2) = putBit bs n x := by unfold putBit; rw [Nat.mod_mod]
    simp only [par, List.map_cons, putAll, h]
    exact ih _ _
set_option maxHeartbeats 4000000 in
set_option maxRecDepth 100000 in
theorem rEncode_calls (A : Option Addr) (cap : Nat) (l : List Nat) (w : World) (hC : (nat .u32).C w A l.length l) (hcap : l.length ≤ cap) (hl : ∀ i, gt l i < 4294967296) (hn : l.length ≤ 65536) :
    Calls Try.prog 16 #[.slice A l.length cap] w fun e w' => ∃ v, e = .returned (.tuple #[v, .int .i64 0]) ∧ Kd.R (nat .u8) 5 w' w.heap.size (fun _ => True) v (packed l) ∧ Below w.heap.size w w' := by
  have t1 : decide (65536 < l.length) = false := decide_eq_false (by omega)
  have hb : (bitsL l).length ≤ 4194304 := by have := stepsBits_length l 16 1; unfold bitsL; omega
  obtain ⟨P, hP⟩ : ∃ P, P = par (bitsL l) := ⟨_, rfl⟩
  have hPl : P.length ≤ 4194304 := by rw [hP, par_length]; exact hb
  have hP2 : ∀ i, gt P i < 2 := by rw [hP]; exact par_lt2 _
  have HP := Aside0.mk hP
  clear hP hb
  go_enter Try.func16, Try.ntmps16
  go_wp2_with (first | (go_at_call 31; refine (rbits_calls A cap l w hC hcap hl hn).mono ?_; rw [← HP.out]; rintro e w1 ⟨v1, rfl, r1, b1⟩; obtain ⟨A1, c1, rfl, hc1, hC1⟩ := Kd.R_reads r1; have B1 := Aside0.mk b1; have C1 := Aside0.mk hC1; clear r1 b1 hC1) | (go_at_call 30; refine (rpacked_calls A1 c1 P w1 C1.out hc1 hP2 hPl).mono ?_; rintro e w2 ⟨v2, rfl, r2, b2⟩; have B2 := Aside0.mk (below_then B1.out B1.out.size b2); have R2 := Aside0.mk (Kd.R_lower r2 B1.out.size); clear r2 b2))
  go_ret2
  refine ⟨_, rfl, ?_, B2.out⟩
  unfold packed
  rw [← putAll_par, ← HP.out]
  exact R2.out

/-- the reference's reader at block g -/
def QX (w : World) (g B : Nat) (b : List Nat) (p : Nat) (short : Bool) : Prop :=
  B ≤ g ∧ ∃ A cap, w.heap[g]? = some (.cells #[.slice A b.length cap, .int .i64 p, .bool short] 85 (0, 0)) ∧ CB .u8 w B A b
theorem QX.belowB {w w' : World} {g B : Nat} {b : List Nat} {p : Nat} {s : Bool} (h : QX w g B b p s) (hg : w.grownBy w' (some g)) : Below B w w' := by
  obtain ⟨h1, A, cap, hb, _⟩ := h
  exact below_of_grown hg h1 (by have := blk_lt hb; omega)
set_option maxHeartbeats 2000000 in
theorem qbit_short {g B : Nat} {b : List Nat} {p : Nat} {sh : Bool} {w : World} (h : QX w g B b p sh) (hp : p = 8 * b.length) (hl : b.length < 1152921504606846976) :
    Calls Try.prog 39 #[.pointer (some ⟨g, 0, none⟩)] w fun e w' => e = .returned (.int .i64 0) ∧ QX w' g B b p true ∧ w.grownBy w' (some g) := by
  obtain ⟨hg, A, cap, hb, hC⟩ := h
  have c0 := (blk_cell hb 0).trans rfl
  have c1 := (blk_cell hb 1).trans rfl
  have c2 := (blk_cell hb 2).trans rfl
  have f2 := blk_frozen hb 2
  have hw : IntKind.i64.wrap (8 * (b.length : Int)) = 8 * (b.length : Int) := by simp only [IntKind.wrap_i64]; omega
  have t1 : decide (8 * (b.length : Int) ≤ (p : Int)) = true := decide_eq_true (by omega)
  have HP := Aside0.mk hp
  have HB := Aside0.mk hb
  have HC := Aside0.mk hC
  have hlt := blk_lt hb
  clear hp hb hC
  go_enter Try.func39, Try.ntmps39
  go_wp2
  repeat (go_quiet (fail); try go_wp2)
  go_ret
  refine ⟨rfl, ⟨hg, A, cap, ?_, HC.out.below ?_⟩, ?_⟩
  · refine (blk_set (cs := #[.slice A b.length cap, .int .i64 p, .bool sh]) ?_ 2 (.bool true)).trans rfl
    exact HB.out
  · exact (pw_below_drewN (Below.refl B w) _).setCell (p := ⟨g, 2, none⟩) hg _
  · exact gset (gdrewN (World.grownBy.refl w _) _) 2 _
set_option maxHeartbeats 2000000 in
theorem qbit {g B : Nat} {b : List Nat} {p : Nat} {sh : Bool} {w : World} (h : QX w g B b p sh) (hp : p < 8 * b.length) (hl : b.length < 1152921504606846976) (hb8 : ∀ i, gt b i < 256) :
    Calls Try.prog 39 #[.pointer (some ⟨g, 0, none⟩)] w fun e w' => e = .returned (.int .i64 (bitAt b p)) ∧ QX w' g B b (p + 1) sh ∧ w.grownBy w' (some g) := by
  obtain ⟨hg, A, cap, hb, hC⟩ := h
  obtain ⟨ad, rfl, hx⟩ := hC.at_ (p / 8) (by omega)
  have c0 := (blk_cell hb 0).trans rfl
  have c1 := (blk_cell hb 1).trans rfl
  have f1 := blk_frozen hb 1
  have hw : IntKind.i64.wrap (8 * (b.length : Int)) = 8 * (b.length : Int) := by simp only [IntKind.wrap_i64]; omega
  have t1 : decide (8 * (b.length : Int) ≤ (p : Int)) = false := decide_eq_false (by omega)
  have HB := Aside0.mk hb
  have HC := Aside0.mk hC
  have hlt := blk_lt hb
  clear hb hC
  go_enter Try.func39, Try.ntmps39
  go_wp2
  repeat (go_quiet (fail); try go_wp2)
  go_ret
  have hv : (wrap64 (gt b (p / 8) : Int) / 2 ^ (7 - p % 8)).tmod 2 = (bitAt b p : Int) := by
    have h2 := hb8 (p / 8)
    unfold bitAt
    generalize gt b (p / 8) = y at *
    have h1 : wrap64 (y : Int) = (y : Int) := by unfold wrap64; omega
    rw [h1, show ((y : Int) / 2 ^ (7 - p % 8)) = ((y / 2 ^ (7 - p % 8) : Nat) : Int) from by simp, Int.tmod_eq_emod_of_nonneg (Int.natCast_nonneg _)]
    omega
  refine ⟨ret_int hv, ⟨hg, some ad, cap, ?_, HC.out.below ?_⟩, ?_⟩
  · refine (blk_set (cs := #[.slice (some ad) b.length cap, .int .i64 p, .bool sh]) ?_ 1 (.int .i64 ((p : Int) + 1))).trans rfl
    exact HB.out
  · exact (pw_below_drewN (Below.refl B w) _).setCell (p := ⟨g, 1, none⟩) hg _
  · exact gset (gdrewN (World.grownBy.refl w _) _) 1 _
end Go.Proofs.Ytpmmnjpimnapfaa.A
