import Derived.Test.YtpmmnjpimnapfaaF0
set_option linter.unusedVariables false
set_option linter.unusedSimpArgs false
namespace Go.Proofs.Ytpmmnjpimnapfaa.A
open Go.RowKit Go.Proofs.YtpmmnjpimnapfaaW.PrintWords Go.Proofs.YtpmmnjpimnapfaaW.PrintLast Go.Proofs.YtpmmnjpimnapfaaW.PrintMore

theorem Hs.bound {w : World} {v : Value} {hs : List Hd} (h : Hs w v hs) : hs.length ≤ 9223372036854775807 := by obtain ⟨A, c, h1, h2⟩ := h; exact h2.2.1
set_option maxHeartbeats 8000000 in
set_option maxRecDepth 100000 in
theorem roomHold (g : Nat) (w : World) (hR : Room w g) : Calls Try.prog 24 #[.pointer (some ⟨g, 0, none⟩)] w fun e w' => e = .returned (.bool true) ∧ Below w.heap.size w w' := by
  obtain ⟨v0, v1, v2, v3, hs, ws, hb, wb, h1, h2, h3, h4, h5, h6, h7⟩ := hR
  have HG := Aside0.mk h1
  have H0 := Aside0.mk h2
  have H1 := Aside0.mk h3
  have H2 := Aside0.mk h4
  have H3 := Aside0.mk h5
  have S0 := Aside0.mk h6
  have S2 := Aside0.mk h7
  have l0 := h2.bound
  have l2 := h4.bound
  obtain ⟨A0, c0, rfl⟩ := h2.len
  obtain ⟨A1, c1, rfl⟩ := h3.len
  obtain ⟨A2, c2, rfl⟩ := h4.len
  obtain ⟨A3, c3, rfl⟩ := h5.len
  clear h1 h2 h3 h4 h5 h6 h7
  go_enter Try.func24, Try.ntmps24
  go_wp2
  go_loopw [3] (fun v wr => ∃ (n : Nat), n ≤ hs.length ∧ v = .int .i64 n ∧ Aside0 (Below w.heap.size w wr)) (fun v _ => hs.length - (intOf v).toNat)
  case atStart => exact ⟨0, by omega, rfl, ⟨Below.refl _ _⟩⟩
  case round =>
    obtain ⟨n, hn, rfl, HB⟩ := hrel
    have hg0 := (blk_cell (blk_below HG.out HB.out) 0).trans rfl
    have hg1 := (blk_cell (blk_below HG.out HB.out) 1).trans rfl
    by_cases hlt : n < hs.length
    · have hlt' : n < ws.length := by have := S0.out.1; omega
      obtain ⟨ad, c, e1, hx⟩ := Hs.at_ (H0.out.below HB.out) hlt
      injection e1 with e1 _ e1'
      obtain ⟨ad', c', e2, hy⟩ := Hs.at_ (H1.out.below HB.out) hlt'
      injection e2 with e2 _ e2'
      subst e1 e1' e2 e2'
      obtain ⟨xs, m1, m2, C1, C2⟩ := (S0.out.below HB.out).2 n hlt hlt'
      obtain ⟨⟨B1, n1, d1⟩, hh1⟩ : ∃ h : Hd, h = hs[n] := ⟨_, rfl⟩
      obtain ⟨⟨B2, n2, d2⟩, hh2⟩ : ∃ h : Hd, h = ws[n] := ⟨_, rfl⟩
      rw [← hh1] at hx m1 C1
      rw [← hh2] at hy m2 C2
      simp only [Hd.v] at hx hy m1 m2 C1 C2
      subst m1 m2
      have lx := C1.2.1
      have C1 := Aside0.mk C1
      have C2 := Aside0.mk C2
      have HX := Aside0.mk hx
      have HY := Aside0.mk hy
      clear hh1 hh2 hx hy
      go_wp2
      repeat (go_quiet (fail); try go_wp2)
      go_loopw [4] (fun v wr2 => ∃ (i : Nat), i ≤ xs.length ∧ v = .int .i64 i ∧ Aside0 (Below wr.heap.size wr wr2)) (fun v _ => xs.length - (intOf v).toNat)
      case atStart => exact ⟨0, by omega, rfl, ⟨Below.refl _ _⟩⟩
      case round =>
        obtain ⟨i, hi, rfl, HB2⟩ := hrel
        have hg0 := pw_cell_below HB2.out hg0
        have hg1 := pw_cell_below HB2.out hg1
        have hx := pw_cell_below HB2.out HX.out
        have hy := pw_cell_below HB2.out HY.out
        by_cases hlt2 : i < xs.length
        · obtain ⟨ad3, rfl, z1⟩ := C_nat (Kd.C_below C1.out HB2.out) i hlt2
          obtain ⟨ad4, rfl, z2⟩ := C_nat (Kd.C_below C2.out HB2.out) i hlt2
          go_wp2
          repeat (go_quiet (fail); try go_wp2)
          go_roundw
          case measure => simp [intOf]; omega
          case rel => first | exact ⟨i + 1, by omega, by go_num, ⟨pw_below_drewN HB2.out _⟩⟩ | ((repeat apply Exists.intro); exact ⟨⟨i + 1, by omega, by go_num, ⟨pw_below_drewN HB2.out _⟩⟩, rfl⟩)
        · obtain rfl : i = xs.length := by omega
          have HB3 := Aside0.mk (HB.out.trans (HB2.out.mono HB.out.size))
          go_wp2
          repeat (go_quiet (fail); try go_wp2)
          go_roundw
          case measure => simp [intOf]; omega
          case rel => first | exact ⟨n + 1, by omega, by go_num, HB3⟩ | exact ⟨n + 1, by omega, by go_num, ⟨pw_below_drewN HB3.out _⟩⟩ | ((repeat apply Exists.intro); exact ⟨⟨n + 1, by omega, by go_num, HB3⟩, rfl⟩)
    · obtain rfl : n = hs.length := by omega
      go_wp2
      repeat (go_quiet (fail); try go_wp2)
      go_loopw [5] (fun v wr => ∃ (n : Nat), n ≤ hb.length ∧ v = .int .i64 n ∧ Aside0 (Below w.heap.size w wr)) (fun v _ => hb.length - (intOf v).toNat)
      case atStart => exact ⟨0, by omega, rfl, (by first | exact HB | exact ⟨pw_below_drewN HB.out _⟩)⟩
      case round =>
        obtain ⟨n, hn, rfl, HB⟩ := hrel
        have hg0 := (blk_cell (blk_below HG.out HB.out) 2).trans rfl
        have hg1 := (blk_cell (blk_below HG.out HB.out) 3).trans rfl
        by_cases hlt : n < hb.length
        · have hlt' : n < wb.length := by have := S2.out.1; omega
          obtain ⟨ad, c, e1, hx⟩ := Hs.at_ (H2.out.below HB.out) hlt
          injection e1 with e1 _ e1'
          obtain ⟨ad', c', e2, hy⟩ := Hs.at_ (H3.out.below HB.out) hlt'
          injection e2 with e2 _ e2'
          subst e1 e1' e2 e2'
          obtain ⟨xs, m1, m2, C1, C2⟩ := (S2.out.below HB.out).2 n hlt hlt'
          obtain ⟨⟨B1, n1, d1⟩, hh1⟩ : ∃ h : Hd, h = hb[n] := ⟨_, rfl⟩
          obtain ⟨⟨B2, n2, d2⟩, hh2⟩ : ∃ h : Hd, h = wb[n] := ⟨_, rfl⟩
          rw [← hh1] at hx m1 C1
          rw [← hh2] at hy m2 C2
          simp only [Hd.v] at hx hy m1 m2 C1 C2
          subst m1 m2
          have lx := C1.2.1
          have C1 := Aside0.mk C1
          have C2 := Aside0.mk C2
          have HX := Aside0.mk hx
          have HY := Aside0.mk hy
          clear hh1 hh2 hx hy
          go_wp2
          repeat (go_quiet (fail); try go_wp2)
          go_loopw [6] (fun v wr2 => ∃ (i : Nat), i ≤ xs.length ∧ v = .int .i64 i ∧ Aside0 (Below wr.heap.size wr wr2)) (fun v _ => xs.length - (intOf v).toNat)
          case atStart => exact ⟨0, by omega, rfl, ⟨Below.refl _ _⟩⟩
          case round =>
            obtain ⟨i, hi, rfl, HB2⟩ := hrel
            have hg0 := pw_cell_below HB2.out hg0
            have hg1 := pw_cell_below HB2.out hg1
            have hx := pw_cell_below HB2.out HX.out
            have hy := pw_cell_below HB2.out HY.out
            by_cases hlt2 : i < xs.length
            · obtain ⟨ad3, rfl, z1⟩ := C_nat (Kd.C_below C1.out HB2.out) i hlt2
              obtain ⟨ad4, rfl, z2⟩ := C_nat (Kd.C_below C2.out HB2.out) i hlt2
              go_wp2
              repeat (go_quiet (fail); try go_wp2)
              go_roundw
              case measure => simp [intOf]; omega
              case rel => first | exact ⟨i + 1, by omega, by go_num, ⟨pw_below_drewN HB2.out _⟩⟩ | ((repeat apply Exists.intro); exact ⟨⟨i + 1, by omega, by go_num, ⟨pw_below_drewN HB2.out _⟩⟩, rfl⟩)
            · obtain rfl : i = xs.length := by omega
              have HB3 := Aside0.mk (HB.out.trans (HB2.out.mono HB.out.size))
              go_wp2
              repeat (go_quiet (fail); try go_wp2)
              go_roundw
              case measure => simp [intOf]; omega
              case rel => first | exact ⟨n + 1, by omega, by go_num, HB3⟩ | exact ⟨n + 1, by omega, by go_num, ⟨pw_below_drewN HB3.out _⟩⟩ | ((repeat apply Exists.intro); exact ⟨⟨n + 1, by omega, by go_num, HB3⟩, rfl⟩)
        · obtain rfl : n = hb.length := by omega
          go_wp2
          repeat (go_quiet (fail); try go_wp2)
          go_loopw [7] (fun v wr => v = .int .i64 0 ∧ Aside0 (Below w.heap.size w wr)) (fun v _ => 0)
          case atStart => exact ⟨rfl, (by first | exact HB | exact ⟨pw_below_drewN HB.out _⟩)⟩
          case round =>
            obtain ⟨rfl, HB⟩ := hrel
            have hg0 := (blk_cell (blk_below HG.out HB.out) 4).trans rfl
            go_wp2
            repeat (go_quiet (fail); try go_wp2)
            go_loopw [9] (fun v wr => v = .int .i64 0 ∧ Aside0 (Below w.heap.size w wr)) (fun v _ => 0)
            case atStart => exact ⟨rfl, (by first | exact HB | exact ⟨pw_below_drewN HB.out _⟩)⟩
            case round =>
              obtain ⟨rfl, HB⟩ := hrel
              have hg0 := (blk_cell (blk_below HG.out HB.out) 6).trans rfl
              go_wp2
              repeat (go_quiet (fail); try go_wp2)
              go_ret
              exact ⟨rfl, HB.out⟩
end Go.Proofs.Ytpmmnjpimnapfaa.A
