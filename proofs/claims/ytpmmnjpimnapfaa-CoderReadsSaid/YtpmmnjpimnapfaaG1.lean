import Derived.Test.YtpmmnjpimnapfaaG0
set_option linter.unusedVariables false
set_option linter.unusedSimpArgs false
namespace Go.Proofs.Ytpmmnjpimnapfaa.A
open Go.RowKit Go.Proofs.YtpmmnjpimnapfaaW.PrintWords Go.Proofs.YtpmmnjpimnapfaaW.PrintLast Go.Proofs.YtpmmnjpimnapfaaW.PrintMore

theorem Ow.but {k : IntKind} {e : TypeId} {w w1 : World} {B B' g : Nat} {v : Value} {xs : List Nat} (h : Ow k e w B v xs) (T : But B' g w w1) (hg : g < B) (hB : w.heap.size ≤ B') : Ow k e w1 B v xs := by
  rcases h with h | ⟨g', cap, cur, rfl, h1, h2, r⟩
  · exact .inl h
  · exact .inr ⟨g', cap, cur, rfl, h1, (T.block g' (by have := blk_lt h2; omega) (by omega)).trans h2, r⟩
theorem cOw {k : IntKind} {e : TypeId} {w : World} {B : Nat} {A : Option Addr} {n c : Nat} {xs : List Nat} (h : Ow k e w B (.slice A n c) xs) : (nat k).C w A xs.length xs := by
  obtain ⟨A', c', h1, _, h3⟩ := h.C
  injection h1 with a b c; subst a; exact h3
set_option maxHeartbeats 16000000 in
set_option maxRecDepth 100000 in
theorem coderWrites (A : Option Addr) (cap : Nat) (l : List Nat) (w : World) (hC : (nat .u32).C w A l.length l) (hcap : l.length ≤ cap) (hl : ∀ i, gt l i < 4294967296) (hb : l.length * 4 ≤ 140737488351232) :
    Calls Try.prog 5 #[.slice A l.length cap] w fun e w' => e = .returned (.bool true) ∧ Below w.heap.size w w' := by
  have HC := Aside0.mk hC
  have hll : l.length < 1152921504606846976 := by omega
  clear hC
  obtain ⟨X, hX⟩ : ∃ X, X = encX l := ⟨_, rfl⟩
  obtain ⟨E, hE⟩ : ∃ E, E = errX l := ⟨_, rfl⟩
  have HXX := Aside0.mk hX
  have HEE := Aside0.mk hE
  have hXl : X.length < 4611686018427387904 := by have := encX_len l; rw [← hX] at this; omega
  clear hX hE
  go_enter Try.func5, Try.ntmps5
  go_wp2_with (go_at_call 10; refine (known_calls _).mono ?_; rintro e w1 ⟨rfl, b1⟩; have B1 := Aside0.mk b1; clear b1)
  obtain ⟨w2, hw2⟩ : ∃ w2, w2 = (w1.alloc (.cells #[.slice none 0 0, .slice none 0 0, .slice none 0 0, .slice none 0 0, .slice none 0 0, .slice none 0 0, .slice none 0 0, .slice none 0 0] 35)).alloc (.cells #[.slice none 0 0, .slice none 0 0, .slice none 0 0, .slice none 0 0, .slice none 0 0, .slice none 0 0, .slice none 0 0, .slice none 0 0] 38) := ⟨_, rfl⟩
  rw [← hw2]
  have hs2 : w2.heap.size = w1.heap.size + 2 := by rw [hw2]; simp
  have B2 : Aside0 (Below w.heap.size w w2) := ⟨by rw [hw2]; exact (B1.out.alloc B1.out.size _).alloc (B1.out.alloc B1.out.size _).size _⟩
  have K2 : Aside0 (w2.heap[w1.heap.size]? = some (.cells #[.slice none 0 0, .slice none 0 0, .slice none 0 0, .slice none 0 0, .slice none 0 0, .slice none 0 0, .slice none 0 0, .slice none 0 0] 35 (0, 0))) := ⟨by rw [hw2]; exact blk_alloc (blk_new w1 _) _⟩
  have Q2 : Aside0 (w2.heap[w1.heap.size + 1]? = some (.cells #[.slice none 0 0, .slice none 0 0, .slice none 0 0, .slice none 0 0, .slice none 0 0, .slice none 0 0, .slice none 0 0, .slice none 0 0] 38 (0, 0))) := ⟨by rw [hw2]; exact blk_new2 w1 _ _⟩
  obtain ⟨g0, hg0⟩ : ∃ g0, g0 = w1.heap.size := ⟨_, rfl⟩
  have hgw : w.heap.size ≤ g0 := by rw [hg0]; exact B1.out.size
  rw [← hg0] at K2 Q2 hs2
  rw [← hg0]
  clear hw2 hg0 B1
  refine (roomSamples (g0 + 1) A cap l w2 Q2.out (Kd.C_below HC.out B2.out) hcap hb).mono ?_
  rintro e w3 ⟨r, c3, cells, rfl, hc3, hr3, hC3, hb3, hK3, hg3⟩
  have CL3 := Aside0.mk hC3
  have RK3 := Aside0.mk hK3
  have K3 := Aside0.mk (blk_grown K2.out hg3 (by intro h; injection h; omega))
  have hs3 : w2.heap.size ≤ w3.heap.size := hg3.size
  have B3 : Aside0 (Below w.heap.size w w3) := ⟨B2.out.trans (below_of_grown hg3 (by omega) (by omega))⟩
  clear hC3 hK3 hg3 hb3
  go_wp2_with (first | (go_at_call 16; refine (rEncode_any A cap l _ (Kd.C_below HC.out B3.out) hcap hl).mono ?_; rw [← HXX.out, ← HEE.out]; rintro e w4 ⟨v4, rfl, o4, b4⟩; obtain ⟨A4, c4, rfl, hc4, hC4⟩ := o4.C; have O4 := Aside0.mk o4; have B4 := Aside0.mk b4; clear o4 b4 hC4) | (go_at_call 17; refine (rCost_any A cap l _ (Kd.C_below HC.out (B3.out.trans (B4.out.mono B3.out.size))) hcap hl).mono ?_; rw [← HEE.out]; rintro e w5 ⟨rfl, b5⟩; have O5 := Aside0.mk (Ow.mono O4.out b5 (Nat.le_refl _)); have B5 := Aside0.mk (B4.out.trans (b5.mono B4.out.size)); clear b5))
  have S5 : Aside0 (w3.heap.size ≤ w5.heap.size) := ⟨B5.out.size⟩
  have K5 : Aside0 (BkBytes w5 g0 w5.heap.size [] []) := ⟨_, _, blk_below K3.out B5.out, Kd.R_nil _ _ _ _ _, Kd.R_nil _ _ _ _ _, Markeds.nil _ _ _ _ _⟩
  have CL5 : Aside0 ((nat .u32).C w5 (some ⟨r, 0, none⟩) l.length l) := ⟨Kd.C_below CL3.out B5.out⟩
  have L5 : Aside0 (∀ ad, some (⟨r, 0, none⟩ : Addr) = some ad → 0 < l.length → ad.block < w5.heap.size ∧ ad.block ≠ g0) := ⟨fun ad hA hp => ⟨C_lt CL5.out ad hA hp, by injection hA with hA; subst hA; simp only; omega⟩⟩
  have hgB : g0 < w5.heap.size := by have := S5.out; omega
  have H23 : Aside0 (g0 + 1 < w3.heap.size ∧ g0 + 2 = w2.heap.size) := ⟨by omega⟩
  clear hr3 hs3 hs2
  go_loopw [10] (fun v wr => ∃ (j : Nat) (hs : List Hd) (ms : List Int), j ≤ 2 ∧ v = .int .i64 j ∧ hs.length = j ∧ Aside0 (BkBytes wr g0 w5.heap.size hs ms) ∧ Aside0 (But w5.heap.size g0 w5 wr)) (fun v _ => 2 - (intOf v).toNat)
  case atStart => exact ⟨0, [], [], by omega, rfl, rfl, K5, ⟨.refl _ _ _⟩⟩
  case round =>
    obtain ⟨j, hs, ms, hj, rfl, hhl, HK, T⟩ := hrel
    have HHL := Aside0.mk hhl
    clear hhl
    have CLr : Aside0 ((nat .u32).C wr (some ⟨r, 0, none⟩) l.length l) := ⟨C_but CL5.out fun ad hA hp => T.out.block _ (L5.out ad hA hp).1 (L5.out ad hA hp).2⟩
    have Or := Aside0.mk (Ow.but O5.out T.out (by have := H23.out; omega) (Nat.le_refl _))
    have Sr : Aside0 (w5.heap.size ≤ wr.heap.size) := ⟨T.out.size⟩
    have HA : Aside0 (∀ r, wr.heap.size ≤ r → Apart hs r) := ⟨by obtain ⟨_, _, _, _, _, h⟩ := HK.out; exact Markeds.new h⟩
    by_cases hlt : j < 2
    · have t1 : decide ((j : Int) < 2) = true := decide_eq_true (by omega)
      go_wp2_with (first | (go_at_call 18; refine (Encode_any _ _ l _ CLr.out hc3 hl).mono ?_; rw [← HXX.out, ← HEE.out]; rintro e w6 ⟨v6, rfl, o6, b6⟩; obtain ⟨A6, c6, rfl, hc6, hC6⟩ := o6.C; have O6 := Aside0.mk o6; have B6 := Aside0.mk b6; clear o6 b6 hC6) | (go_at_call 19; refine (Cost_any _ _ l _ (Kd.C_below CLr.out B6.out) hc3 hl).mono ?_; rw [← HEE.out]; rintro e w7 ⟨rfl, b7⟩; have O7 := Aside0.mk (Ow.mono O6.out b7 (Nat.le_refl _)); have B7 := Aside0.mk (B6.out.trans (b7.mono B6.out.size)); clear b7) | (go_at_call 20; refine (num_calls _ _).mono ?_; rintro e w7 ⟨rfl, rfl⟩) | (go_at_call 21; refine (bytes_calls _ _ _ _ X X _ (cOw O7.out) (cOw (Ow.mono Or.out B7.out (Nat.le_refl _))) hc6 hc4 hXl).mono ?_; rw [decide_eq_true rfl]; rintro e w8 ⟨rfl, b8⟩; have O8 := Aside0.mk (Ow.mono O7.out b8 (Nat.le_refl _)); have B8 := Aside0.mk (B7.out.trans (b8.mono B7.out.size)); clear b8) | (go_at_call 22; refine (bookBytes g0 w5.heap.size wr.heap.size (j : Int) hs ms _ _ X (HK.out.below B8.out) hgB (Nat.le_trans Sr.out B8.out.size) O8.out Sr.out HA.out (by have := HHL.out; omega)).mono ?_; rintro e w9 ⟨rfl, h, k9, t9⟩; have K9 := Aside0.mk k9; have T9 := Aside0.mk (T.out.trans ((But.of_below (B8.out.mono Sr.out)).trans t9)); clear k9 t9))
      go_roundw
      case measure => simp [intOf]; omega
      case rel => first | exact ⟨j + 1, _, _, by omega, by go_num, by have := HHL.out; simp; omega, K9, T9⟩ | ((repeat apply Exists.intro); exact ⟨⟨j + 1, _, _, by omega, by go_num, by have := HHL.out; simp; omega, K9, T9⟩, rfl⟩)
    · obtain rfl : j = 2 := by omega
      have hR : Aside0 (Room wr (g0 + 1)) := ⟨RK3.out wr (fun k h1 h2 => (T.out.block k (by have := S5.out; omega) (by have := H23.out; omega)).trans (B5.out.block k h2)) ((T.out.block (g0 + 1) (by have := S5.out; have := H23.out; omega) (by omega)).trans (B5.out.block _ H23.out.1))⟩
      have Z : Aside0 (Below w.heap.size w wr) := ⟨(B3.out.trans (B5.out.mono B3.out.size)).trans (T.out.below (Nat.le_trans B3.out.size S5.out) hgw)⟩
      go_wp2_with (first | (go_at_call 23; refine (bookHold g0 _ _ HK.out.read).mono ?_; rintro e w10 ⟨rfl, b10⟩; have B10 := Aside0.mk b10; clear b10) | (go_at_call 24; refine (roomHold (g0 + 1) _ (hR.out.below B10.out)).mono ?_; rintro e w11 ⟨rfl, b11⟩; have B11 := Aside0.mk (below_then (below_then Z.out Z.out.size B10.out) (Nat.le_trans Z.out.size B10.out.size) b11); clear b11))
      go_ret
      exact ⟨rfl, B11.out⟩
end Go.Proofs.Ytpmmnjpimnapfaa.A
