import Derived.Test.YtpmmnjpimnapfaaF3
import Derived.BigQuiet
set_option linter.unusedVariables false
set_option linter.unusedSimpArgs false
namespace Go.Proofs.Ytpmmnjpimnapfaa.A
open Go.RowKit Go.Proofs.YtpmmnjpimnapfaaW.PrintWords Go.Proofs.YtpmmnjpimnapfaaW.PrintLast Go.Proofs.YtpmmnjpimnapfaaW.PrintMore

def Ns (w : World) (v : Value) (ms : List Int) : Prop := ∃ A c, v = .slice A ms.length c ∧ intK.C w A ms.length ms
theorem Ns.below {w w1 : World} {v : Value} {ms : List Int} (h : Ns w v ms) (hb : Below w.heap.size w w1) : Ns w1 v ms := by obtain ⟨A, c, h1, h2⟩ := h; exact ⟨A, c, h1, Kd.C_below h2 hb⟩
theorem Ns.of_R {e : TypeId} {w : World} {B : Nat} {ok : Nat → Prop} {v : Value} {ms : List Int} (h : Kd.R intK e w B ok v ms) : Ns w v ms := by
  obtain ⟨A, c, h1, h2, h3⟩ := Kd.R_reads h
  exact ⟨A, c, h1, h3⟩
theorem Ns.nil (w : World) : Ns w (.slice none 0 0) [] := ⟨none, 0, rfl, Kd.C_nil _ _⟩
theorem Ns.len {w : World} {v : Value} {ms : List Int} (h : Ns w v ms) : ∃ A c, v = .slice A ms.length c := by obtain ⟨A, c, h1, _⟩ := h; exact ⟨A, c, h1⟩
theorem Ns.at_ {w : World} {v : Value} {ms : List Int} (h : Ns w v ms) {i : Nat} (hi : i < ms.length) : ∃ ad c, v = .slice (some ad) ms.length c ∧ w.cell? (ad.add i) = some (.int .i64 ms[i]) := by
  obtain ⟨A, c, h1, h2⟩ := h
  obtain ⟨ad, cs, hA, hl, hK, hc⟩ := Kd.C_get h2 0 i (by omega) (by omega)
  subst hA
  refine ⟨ad, c, h1, ?_⟩
  have hK' : cs = [(.int .i64 ms[i])] := by
    have e : ms.getD ((i : Int)).toNat 0 = ms[i] := by simp [List.getElem?_eq_getElem hi]
    rw [e] at hK
    exact hK
  have := hc 0 _ (by rw [hK']; rfl)
  simpa [intK, Kd.scalar] using this
theorem Markeds.nil (k : IntKind) (M : Int) (e : TypeId) (w : World) (B : Nat) : Markeds k M e w B [] [] := ⟨rfl, fun i h => by simp at h⟩
def BookR (w : World) (g B : Nat) : Prop := ∃ v0 v1 m0 m1 hs hb ms mb, w.heap[g]? = some (.cells #[v0, v1, .slice none 0 0, .slice none 0 0, m0, m1, .slice none 0 0, .slice none 0 0] 35 (0, 0)) ∧ Hs w v0 hs ∧ Hs w v1 hb ∧ Ns w m0 ms ∧ Ns w m1 mb ∧ Markeds .u32 4294967296 23 w B hs ms ∧ Markeds .u8 256 5 w B hb mb
theorem BkBytes.read {w : World} {g B : Nat} {hs : List Hd} {ms : List Int} (h : BkBytes w g B hs ms) : BookR w g B := by
  obtain ⟨v, vm, h1, h2, h3, h4⟩ := h
  exact ⟨_, _, _, _, [], hs, [], ms, h1, Hs.nil _, Hs.of_R h2, Ns.nil _, Ns.of_R h3, Markeds.nil _ _ _ _ _, h4⟩
theorem BkSamples.read {w : World} {g B : Nat} {hs : List Hd} {ms : List Int} (h : BkSamples w g B hs ms) : BookR w g B := by
  obtain ⟨v, vm, h1, h2, h3, h4⟩ := h
  exact ⟨_, _, _, _, hs, [], ms, [], h1, Hs.of_R h2, Hs.nil _, Ns.of_R h3, Ns.nil _, h4, Markeds.nil _ _ _ _ _⟩
theorem Marked.cells {k : IntKind} {M : Int} {e : TypeId} {w : World} {B : Nat} {h : Hd} {m : Int} (H : Marked k M e w B h m) : h.2.1 ≤ 9223372036854775807 ∧ ∀ j, j < h.2.1 → ∃ r, h.1 = some ⟨r, 0, none⟩ ∧ w.cell? ⟨r, j, none⟩ = some (.int k (mk m j % M)) := by
  rcases H with ⟨_, h2⟩ | ⟨r, cur, h1, hb, h2, h3, h4, h5⟩
  · exact ⟨by omega, fun j hj => by omega⟩
  · exact ⟨h4, fun j hj => ⟨r, h1, by rw [blk_cell h2 j]; exact h5 j hj⟩⟩
set_option maxHeartbeats 8000000 in
set_option maxRecDepth 100000 in
theorem bookHold (g B : Nat) (w : World) (hR : BookR w g B) : Calls Try.prog 23 #[.pointer (some ⟨g, 0, none⟩)] w fun e w' => e = .returned (.bool true) ∧ Below w.heap.size w w' := by
  obtain ⟨v0, v1, m0, m1, hs, hb, ms, mb, h1, h2, h3, h4, h5, h6, h7⟩ := hR
  have HG := Aside0.mk h1
  have H0 := Aside0.mk h2
  have H1 := Aside0.mk h3
  have N0 := Aside0.mk h4
  have N1 := Aside0.mk h5
  have S0 := Aside0.mk h6
  have S1 := Aside0.mk h7
  have l0 := h2.bound
  have l2 := h3.bound
  obtain ⟨A0, c0, rfl⟩ := h2.len
  obtain ⟨A1, c1, rfl⟩ := h3.len
  obtain ⟨A2, c2, rfl⟩ := h4.len
  obtain ⟨A3, c3, rfl⟩ := h5.len
  clear h1 h2 h3 h4 h5 h6 h7
  go_enter Try.func23, Try.ntmps23
  go_wp2
  go_loopw [3] (fun v wr => ∃ (n : Nat), n ≤ hs.length ∧ v = .int .i64 n ∧ Aside0 (Below w.heap.size w wr)) (fun v _ => hs.length - (intOf v).toNat)
  case atStart => exact ⟨0, by omega, rfl, ⟨Below.refl _ _⟩⟩
  case round =>
    obtain ⟨n, hn, rfl, HB⟩ := hrel
    have hg0 := (blk_cell (blk_below HG.out HB.out) 0).trans rfl
    have hg1 := (blk_cell (blk_below HG.out HB.out) 4).trans rfl
    by_cases hlt : n < hs.length
    · have hlt' : n < ms.length := by have := S0.out.1; omega
      obtain ⟨ad, c, e1, hx⟩ := Hs.at_ (H0.out.below HB.out) hlt
      injection e1 with e1 _ e1'
      obtain ⟨ad', c', e2, hy⟩ := Ns.at_ (N0.out.below HB.out) hlt'
      injection e2 with e2 _ e2'
      subst e1 e1' e2 e2'
      obtain ⟨lx, hM⟩ := Marked.cells ((Markeds.below S0.out HB.out).2 n hlt hlt')
      obtain ⟨⟨B1, n1, d1⟩, hh1⟩ : ∃ h : Hd, h = hs[n] := ⟨_, rfl⟩
      obtain ⟨m1, hh2⟩ : ∃ h : Int, h = ms[n] := ⟨_, rfl⟩
      rw [← hh1] at hx hM lx
      rw [← hh2] at hy hM
      simp only [Hd.v] at hx hM lx
      have HMK := Aside0.mk hM
      have HX := Aside0.mk hx
      have HY := Aside0.mk hy
      clear hh1 hh2 hx hy hM
      go_wp2
      repeat (go_quiet (fail); try go_wp2)
      go_loopw [4] (fun v wr2 => ∃ (i : Nat), i ≤ n1 ∧ v = .int .i64 i ∧ Aside0 (Below wr.heap.size wr wr2)) (fun v _ => n1 - (intOf v).toNat)
      case atStart => exact ⟨0, by omega, rfl, ⟨Below.refl _ _⟩⟩
      case round =>
        obtain ⟨i, hi, rfl, HB2⟩ := hrel
        have hg0 := pw_cell_below HB2.out hg0
        have hg1 := pw_cell_below HB2.out hg1
        have hx := pw_cell_below HB2.out HX.out
        have hy := pw_cell_below HB2.out HY.out
        by_cases hlt2 : i < n1
        · obtain ⟨r, rfl, z0⟩ := HMK.out i hlt2
          have z1 := pw_cell_below HB2.out z0
          have HZ0 := Aside0.mk z0
          clear z0
          go_wp2
          go_quiet ((go_at_call 38; exact Calls.quiet_of_same ((mk_calls m1 i _).mono fun e w' h => ⟨h.1, h.2.symm⟩)))
          go_wp2
          go_roundw
          case measure => simp [intOf]; omega
          case rel => first | exact ⟨i + 1, by omega, by go_num, ⟨pw_below_drewN HB2.out _⟩⟩ | ((repeat apply Exists.intro); exact ⟨⟨i + 1, by omega, by go_num, ⟨pw_below_drewN HB2.out _⟩⟩, rfl⟩)
        · obtain rfl : i = n1 := by omega
          have HB3 := Aside0.mk (HB.out.trans (HB2.out.mono HB.out.size))
          go_wp2
          repeat (go_quiet (fail); try go_wp2)
          go_roundw
          case measure => simp [intOf]; omega
          case rel => first | exact ⟨n + 1, by omega, by go_num, HB3⟩ | exact ⟨n + 1, by omega, by go_num, ⟨pw_below_drewN HB3.out _⟩⟩ | ((repeat apply Exists.intro); exact ⟨⟨n + 1, by omega, by go_num, HB3⟩, rfl⟩)
    · obtain rfl : n = hs.length := by omega
      go_wp2
      repeat (go_quiet (fail); try go_wp2)
      go_loopw [5] (fun v wr => ∃ (n : Nat), n ≤ hb.length ∧ v = .int .i64 n ∧ Aside0 (Below w.heap.size w wr)) (fun v _ => hb.length - (intOf v).toNat)
      case atStart => exact ⟨0, by omega, rfl, (by first | exact HB | exact ⟨pw_below_drewN HB.out _⟩)⟩
      case round =>
        obtain ⟨n, hn, rfl, HB⟩ := hrel
        have hg0 := (blk_cell (blk_below HG.out HB.out) 1).trans rfl
        have hg1 := (blk_cell (blk_below HG.out HB.out) 5).trans rfl
        by_cases hlt : n < hb.length
        · have hlt' : n < mb.length := by have := S1.out.1; omega
          obtain ⟨ad, c, e1, hx⟩ := Hs.at_ (H1.out.below HB.out) hlt
          injection e1 with e1 _ e1'
          obtain ⟨ad', c', e2, hy⟩ := Ns.at_ (N1.out.below HB.out) hlt'
          injection e2 with e2 _ e2'
          subst e1 e1' e2 e2'
          obtain ⟨lx, hM⟩ := Marked.cells ((Markeds.below S1.out HB.out).2 n hlt hlt')
          obtain ⟨⟨B1, n1, d1⟩, hh1⟩ : ∃ h : Hd, h = hb[n] := ⟨_, rfl⟩
          obtain ⟨m1, hh2⟩ : ∃ h : Int, h = mb[n] := ⟨_, rfl⟩
          rw [← hh1] at hx hM lx
          rw [← hh2] at hy hM
          simp only [Hd.v] at hx hM lx
          have HMK := Aside0.mk hM
          have HX := Aside0.mk hx
          have HY := Aside0.mk hy
          clear hh1 hh2 hx hy hM
          go_wp2
          repeat (go_quiet (fail); try go_wp2)
          go_loopw [6] (fun v wr2 => ∃ (i : Nat), i ≤ n1 ∧ v = .int .i64 i ∧ Aside0 (Below wr.heap.size wr wr2)) (fun v _ => n1 - (intOf v).toNat)
          case atStart => exact ⟨0, by omega, rfl, ⟨Below.refl _ _⟩⟩
          case round =>
            obtain ⟨i, hi, rfl, HB2⟩ := hrel
            have hg0 := pw_cell_below HB2.out hg0
            have hg1 := pw_cell_below HB2.out hg1
            have hx := pw_cell_below HB2.out HX.out
            have hy := pw_cell_below HB2.out HY.out
            by_cases hlt2 : i < n1
            · obtain ⟨r, rfl, z0⟩ := HMK.out i hlt2
              have z1 := pw_cell_below HB2.out z0
              have HZ0 := Aside0.mk z0
              clear z0
              go_wp2
              go_quiet ((go_at_call 38; exact Calls.quiet_of_same ((mk_calls m1 i _).mono fun e w' h => ⟨h.1, h.2.symm⟩)))
              go_wp2
              go_roundw
              case measure => simp [intOf]; omega
              case rel => first | exact ⟨i + 1, by omega, by go_num, ⟨pw_below_drewN HB2.out _⟩⟩ | ((repeat apply Exists.intro); exact ⟨⟨i + 1, by omega, by go_num, ⟨pw_below_drewN HB2.out _⟩⟩, rfl⟩)
            · obtain rfl : i = n1 := by omega
              have HB3 := Aside0.mk (HB.out.trans (HB2.out.mono HB.out.size))
              go_wp2
              repeat (go_quiet (fail); try go_wp2)
              go_roundw
              case measure => simp [intOf]; omega
              case rel => first | exact ⟨n + 1, by omega, by go_num, HB3⟩ | exact ⟨n + 1, by omega, by go_num, ⟨pw_below_drewN HB3.out _⟩⟩ | ((repeat apply Exists.intro); exact ⟨⟨n + 1, by omega, by go_num, HB3⟩, rfl⟩)
        · obtain rfl : n = hb.length := by omega
          go_wp2
          repeat (go_quiet (fail); try go_wp2)
          go_loopw [7] (fun v wr => v = .int .i64 0 ∧ Aside0 (Below w.heap.size w wr)) (fun v _ => 0)
          case atStart => exact ⟨rfl, (by first | exact HB | exact ⟨pw_below_drewN HB.out _⟩)⟩
          case round =>
            obtain ⟨rfl, HB⟩ := hrel
            have hg0 := (blk_cell (blk_below HG.out HB.out) 2).trans rfl
            go_wp2
            repeat (go_quiet (fail); try go_wp2)
            go_loopw [9] (fun v wr => v = .int .i64 0 ∧ Aside0 (Below w.heap.size w wr)) (fun v _ => 0)
            case atStart => exact ⟨rfl, (by first | exact HB | exact ⟨pw_below_drewN HB.out _⟩)⟩
            case round =>
              obtain ⟨rfl, HB⟩ := hrel
              have hg0 := (blk_cell (blk_below HG.out HB.out) 3).trans rfl
              go_wp2
              repeat (go_quiet (fail); try go_wp2)
              go_ret
              exact ⟨rfl, HB.out⟩
end Go.Proofs.Ytpmmnjpimnapfaa.A
