import Derived.Test.YtpmmnjpimnapfaaF2
set_option linter.unusedVariables false
set_option linter.unusedSimpArgs false
namespace Go.Proofs.Ytpmmnjpimnapfaa.A
open Go.RowKit Go.Proofs.YtpmmnjpimnapfaaW.PrintWords Go.Proofs.YtpmmnjpimnapfaaW.PrintLast Go.Proofs.YtpmmnjpimnapfaaW.PrintMore

set_option maxHeartbeats 8000000 in
set_option maxRecDepth 100000 in
theorem nilBytes (g B : Nat) (m : Int) (hs : List Hd) (ms : List Int) (w : World) (hK : BkBytes w g B hs ms) (hgB : g < B) (hBs : B ≤ w.heap.size) (hlen : hs.length ≤ 1000000) :
    Calls Try.prog 22 #[.pointer (some ⟨g, 0, none⟩), .slice none 0 0, .int .i64 m] w fun e w' => e = .returned (.tuple #[]) ∧ BkBytes w' g B (hs ++ [(none, 0, 0)]) (ms ++ [m]) ∧ But B g w w' := by
  obtain ⟨v, vm, h1, h2, h3, h4⟩ := hK
  have HSM := Aside0.mk h4.1
  obtain ⟨As, cs, rfl, _, _⟩ := Kd.R_reads h2
  obtain ⟨Am, cm, rfl, _, _⟩ := Kd.R_reads h3
  have H1 := Aside0.mk h1
  have H2 := Aside0.mk h2
  have H3 := Aside0.mk h3
  have H4 := Aside0.mk h4
  clear h1 h2 h3 h4
  go_enter Try.func22, Try.ntmps22
  go_wp2
  go_loopw [6] (fun v wr => v = .int .i64 0 ∧ Aside0 (wr = w)) (fun v _ => 0)
  case atStart => exact ⟨rfl, ⟨rfl⟩⟩
  case round =>
      obtain ⟨rfl, hw⟩ := hrel
      have hw := hw.out
      subst hw
      have K1 := H1
      have Y1 := H2
      have M1 := H3
      have L1 := H4
      have T1 : Aside0 (But B g wr wr) := ⟨.refl _ _ _⟩
      have hg0 := (blk_cell K1.out 1).trans rfl
      have S1 : Aside0 (B ≤ wr.heap.size) := ⟨Nat.le_trans hBs T1.out.size⟩
      obtain ⟨hs', hh⟩ : ∃ hs' : List Hd, hs' = hs ++ [(none, 0, 0)] := ⟨_, rfl⟩
      obtain ⟨ms', hm'⟩ : ∃ ms' : List Int, ms' = ms ++ [m] := ⟨_, rfl⟩
      have HH := Aside0.mk hh
      have HM := Aside0.mk hm'
      clear hh hm'
      go_wp2_with ((with_reducible refine gate_builtin (b := .append) (xs := #[.tmp 28, .tmp 30]) rfl ?_); at_builtin; refine Kd.R_append_row Hd.v (none, 0, 0) (h1 := fun _ => rfl) (w0 := _) B rfl (.tmp 28) (.tmp 30) 29 40 (.slice none 0 0) 24 rfl Try.underlying29 info40 rfl (by omega) (.slice As hs.length cs) hs [(none, 0, 0)] _ 1 1 (fun _ => True) rfl rfl (fun _ _ => trivial) (Kd.R_alloc Y1.out _) (hdr_new [(none, 0, 0)] (blk_new _ _) rfl (by simp)) (Below.refl _ _) ?aS ?aL ?_; (case aS => exact ((Below.refl B wr).alloc S1.out _).size |> Nat.le_trans S1.out); (case aL => omega); intro v5 w5 hR1 hB1 hg1 hat1; rw [← HH.out] at hR1; obtain ⟨A5, c5, rfl, hc5, hC5⟩ := Kd.R_reads hR1; have Y5 := Aside0.mk hR1; have K5 := Aside0.mk (blk_grown (blk_alloc K1.out _) hg1 (Kd.R_ne Y1.out K1.out (by decide))); have B5 := Aside0.mk hB1; have M5 := Aside0.mk (Kd.R_over (Kd.R_alloc M1.out _) (Kd.R_alloc Y1.out _) (by decide) hg1); have L5 : Aside0 (Markeds .u8 256 5 w5 B hs ms) := ⟨Markeds.grown (L1.out.alloc _) (Kd.R_alloc Y1.out _) (by decide) hg1⟩; have Q5 := Aside0.mk ((Below.refl B wr).alloc S1.out _ |>.trans hB1); clear hR1 hB1 hg1 hat1 hC5; have fg5 := blk_frozen K5.out 1; have hg5 := (blk_cell K5.out 1).trans rfl)
      obtain ⟨W, hW⟩ : ∃ W, W = w5.setCell ⟨g, 1, none⟩ (.slice A5 hs'.length c5) := ⟨_, rfl⟩
      have KW : Aside0 (W.heap[g]? = some (.cells #[.slice none 0 0, .slice A5 hs'.length c5, .slice none 0 0, .slice none 0 0, .slice none 0 0, (.slice Am ms.length cm), .slice none 0 0, .slice none 0 0] 35 (0, 0))) := ⟨by rw [hW]; exact (blk_set K5.out 1 _).trans rfl⟩
      have YW : Aside0 (Kd.R hdr 40 W B (fun _ => True) (.slice A5 hs'.length c5) hs') := ⟨by rw [hW]; exact Kd.R_set Y5.out K5.out (by decide) 1 _⟩
      have MW : Aside0 (Kd.R intK 3 W B (fun _ => True) (.slice Am ms.length cm) ms) := ⟨by rw [hW]; exact Kd.R_set M5.out K5.out (by decide) 1 _⟩
      have LW : Aside0 (Markeds .u8 256 5 W B hs ms) := ⟨by rw [hW]; exact Markeds.set L5.out K5.out (by decide) 1 _⟩
      have TW : Aside0 (But B g wr W) := ⟨by rw [hW]; exact (T1.out.trans (.of_below Q5.out)).set 1 _⟩
      rw [← hW]
      have K8 := Aside0.mk (blk_drew KW.out)
      have Y8 := Aside0.mk (Kd.R_drew YW.out)
      have M8 := Aside0.mk (Kd.R_drew MW.out)
      have L8 : Aside0 (Markeds .u8 256 5 W.drew B hs ms) := ⟨Markeds.below LW.out (pw_below_drewN (Below.refl _ W) 1)⟩
      have T8 : Aside0 (But B g wr W.drew) := ⟨TW.out.trans (.of_below (pw_below_drewN (Below.refl _ W) 1))⟩
      have G8 : Aside0 (B ≤ W.drew.heap.size) := ⟨Nat.le_trans hBs T8.out.size⟩
      clear hW
      refine start_ (n := 13) (S := fun w' => w'.cell? ⟨g, 5, none⟩ = some (.slice Am ms.length cm)) (ds := [12]) #[false, false, false, false, false, false, false, false, false, false, false, false, false] (by kernel_rfl) rfl rfl ((blk_cell K8.out 5).trans rfl) (fun hHeld => ?_)
      refine pure_ (i := 0) (N := some 34) (v := ?_) (a' := ?_) #[true, false, false, false, false, false, false, false, false, false, false, false, false] rfl rfl (by kernel_rfl) (fun _ _ _ h => h) (Or.inl ⟨by rfl, ?_⟩) ?_ ?_
      rotate_left
      · intro w'
        go_simp
        with_reducible rfl
      rotate_left
      · simp only [Act.put, List.setIfInBounds_toArray, List.set_cons_zero, List.set_cons_succ, i64_w, i32_w]
        rfl
      refine pure_ (i := 1) (N := some 35) (v := ?_) (a' := ?_) #[true, true, false, false, false, false, false, false, false, false, false, false, false] rfl rfl (by kernel_rfl) (fun _ _ _ h => h) (Or.inl ⟨by rfl, ?_⟩) ?_ ?_
      rotate_left
      · intro w'
        go_simp
        with_reducible rfl
      rotate_left
      · simp only [Act.put, List.setIfInBounds_toArray, List.set_cons_zero, List.set_cons_succ, i64_w, i32_w]
        rfl
      refine pure_ (i := 2) (N := some 36) (v := ?_) (a' := ?_) #[true, true, true, false, false, false, false, false, false, false, false, false, false] rfl rfl (by kernel_rfl) (fun _ _ _ h => h) (Or.inl ⟨by rfl, ?_⟩) ?_ ?_
      rotate_left
      · intro w'
        go_simp
        with_reducible rfl
      rotate_left
      · simp only [Act.put, List.setIfInBounds_toArray, List.set_cons_zero, List.set_cons_succ, i64_w, i32_w]
        rfl
      refine pure_ (i := 3) (N := some 37) (v := ?_) (a' := ?_) #[true, true, true, true, false, false, false, false, false, false, false, false, false] rfl rfl (by kernel_rfl) (fun _ _ _ h => h) (Or.inl ⟨by rfl, ?_⟩) ?_ ?_
      rotate_left
      · intro w'
        go_simp
        with_reducible rfl
      rotate_left
      · simp only [Act.put, List.setIfInBounds_toArray, List.set_cons_zero, List.set_cons_succ, i64_w, i32_w]
        rfl
      refine pure_ (i := 4) (N := some 38) (v := ?_) (a' := ?_) #[true, true, true, true, true, false, false, false, false, false, false, false, false] rfl rfl (by kernel_rfl) (fun _ _ _ h => h) (Or.inl ⟨by rfl, ?_⟩) ?_ ?_
      rotate_left
      · intro w'
        go_simp
        with_reducible rfl
      rotate_left
      · simp only [Act.put, List.setIfInBounds_toArray, List.set_cons_zero, List.set_cons_succ, i64_w, i32_w]
        rfl
      refine pure_ (i := 6) (N := some 40) (v := ?_) (a' := ?_) #[true, true, true, true, true, false, true, false, false, false, false, false, false] rfl rfl (by kernel_rfl) (fun _ _ _ h => h) (Or.inl ⟨by rfl, ?_⟩) ?_ ?_
      rotate_left
      · intro w'
        go_simp
        with_reducible rfl
      rotate_left
      · simp only [Act.put, List.setIfInBounds_toArray, List.set_cons_zero, List.set_cons_succ, i64_w, i32_w]
        rfl
      refine pure_ (i := 9) (N := some 43) (v := ?_) (a' := ?_) #[true, true, true, true, true, false, true, false, false, true, false, false, false] rfl rfl (by kernel_rfl) (fun _ _ _ h => h) (Or.inl ⟨by rfl, ?_⟩) ?_ ?_
      rotate_left
      · intro w'
        go_simp
        with_reducible rfl
      rotate_left
      · simp only [Act.put, List.setIfInBounds_toArray, List.set_cons_zero, List.set_cons_succ, i64_w, i32_w]
        rfl
      refine pure_ (i := 10) (N := some 44) (v := ?_) (a' := ?_) #[true, true, true, true, true, false, true, false, false, true, true, false, false] rfl rfl (by kernel_rfl) (fun _ _ _ h => h) (Or.inl ⟨by rfl, ?_⟩) ?_ ?_
      rotate_left
      · intro w'
        go_simp
        with_reducible rfl
      rotate_left
      · simp only [Act.put, List.setIfInBounds_toArray, List.set_cons_zero, List.set_cons_succ, i64_w, i32_w]
        rfl
      refine take_ (i := 5) (N := some 39) (v := ?_) (a' := ?_) #[true, true, true, true, true, true, true, false, false, true, true, false, false] rfl rfl (by kernel_rfl) (fun _ _ _ h => h) (Or.inl ⟨by rfl, ?_⟩) hHeld ?_ ?_
      rotate_left
      · intro w' s0
        go_simp
        with_reducible rfl
      rotate_left
      · simp only [Act.put, List.setIfInBounds_toArray, List.set_cons_zero, List.set_cons_succ, i64_w, i32_w]
        rfl
      refine one_ (i := 7) (N := some 41) #[true, true, true, true, true, true, true, true, false, true, true, false, false] rfl rfl (by kernel_rfl) (by decide) (fun K hK => ?_)
      refine value_ (w1 := ?_) (v := ?_) (by rfl) rfl ?_ ?_
      rotate_left 2
      · go_simp
        constructor
        · rfl
        · rfl
      refine hK.out _ _ ((blk_cell (blk_alloc K8.out _) 5).trans rfl) (fun hHeld => ?_)
      clear hK K
      refine norm_ (a' := ?_) ?_ ?_
      rotate_left
      · show Act.put _ (some 41) _ = _
        simp only [Act.put, List.setIfInBounds_toArray, List.set_cons_zero, List.set_cons_succ, i64_w, i32_w]
        rfl
      refine one_ (i := 8) (N := some 42) #[true, true, true, true, true, true, true, true, true, true, true, false, false] rfl rfl (by kernel_rfl) (by decide) (fun K hK => ?_)
      refine Kd.R_append_step intK (w0 := _) B (by rfl) (.tmp 39) (.tmp 41) 32 3 (.int .i64 0) 8 rfl Try.underlying32 info3 rfl (by decide) (by omega) (.slice Am ms.length cm) ms m [.int .i64 m] (fun _ => True) (fun _ => False) rfl rfl ?aP (fun _ hk => hk.elim) (fun _ _ => trivial) (M8.out) (Below.refl _ _) ?aS ?aL ?_
      (case aP => exact rfl)
      (case aS => exact G8.out)
      (case aL => have := HSM.out; omega)
      intro v7 w7 hR1 hB1 hg1 hat1
      rw [← HM.out] at hR1
      obtain ⟨A7, c7, rfl, hc7, hC7⟩ := Kd.R_reads hR1
      have M7 := Aside0.mk hR1
      have B7 := Aside0.mk hB1
      have K7 := Aside0.mk (blk_grown K8.out hg1 (Kd.R_ne M8.out K8.out (by decide)))
      have Y7 := Aside0.mk (Kd.R_over Y8.out M8.out (by decide) hg1)
      have L7 : Aside0 (Markeds .u8 256 5 w7 B hs ms) := ⟨Markeds.grown L8.out M8.out (by decide) hg1⟩
      clear hR1 hB1 hat1 hg1 hC7
      refine hK.out _ _ ((blk_cell K7.out 5).trans rfl) (fun hHeld => ?_)
      clear hK K
      refine norm_ (a' := ?_) ?_ ?_
      rotate_left
      · show Act.put _ (some 42) _ = _
        simp only [Act.put, List.setIfInBounds_toArray, List.set_cons_zero, List.set_cons_succ, i64_w, i32_w]
        rfl
      refine pure_ (i := 11) (N := some 45) (v := ?_) (a' := ?_) #[true, true, true, true, true, true, true, true, true, true, true, true, false] rfl rfl (by kernel_rfl) (fun _ _ _ h => h) (Or.inl ⟨by rfl, ?_⟩) ?_ ?_
      rotate_left
      · intro w'
        go_simp
        with_reducible rfl
      rotate_left
      · simp only [Act.put, List.setIfInBounds_toArray, List.set_cons_zero, List.set_cons_succ, i64_w, i32_w]
        rfl
      refine last_ (i := 12) (N := none) #[true, true, true, true, true, true, true, true, true, true, true, true, true] rfl rfl (by kernel_rfl) (by decide) (fun K hK => ?_)
      have f1 := blk_frozen K7.out 5
      refine skip_ (w1 := ?_) (by rfl) rfl ?_ ?_
      rotate_left
      · go_simp
        rfl
      refine hK.out _ _ ?_
      clear hK K
      refine done_ (by kernel_rfl) ?_
      try go_wp2
      go_end0
      rw [← HH.out, ← HM.out]
      refine ⟨rfl, ⟨_, _, (blk_set K7.out 5 _).trans rfl, Kd.R_set Y7.out K7.out (by decide) 5 _, Kd.R_set M7.out K7.out (by decide) 5 _, ?_⟩, (T8.out.trans (.of_below B7.out)).set 5 _⟩
      have hmk : Marked .u8 256 5 w7 B (none, 0, 0) m := .inl ⟨rfl, rfl⟩
      have hsn := Markeds.snoc L7.out hmk
      rw [← HH.out, ← HM.out] at hsn
      exact hsn.set K7.out (by decide) 5 _
set_option maxHeartbeats 8000000 in
set_option maxRecDepth 100000 in
theorem nilSamples (g B : Nat) (m : Int) (hs : List Hd) (ms : List Int) (w : World) (hK : BkSamples w g B hs ms) (hgB : g < B) (hBs : B ≤ w.heap.size) (hlen : hs.length ≤ 1000000) :
    Calls Try.prog 29 #[.pointer (some ⟨g, 0, none⟩), .slice none 0 0, .int .i64 m] w fun e w' => e = .returned (.tuple #[]) ∧ BkSamples w' g B (hs ++ [(none, 0, 0)]) (ms ++ [m]) ∧ But B g w w' := by
  obtain ⟨v, vm, h1, h2, h3, h4⟩ := hK
  have HSM := Aside0.mk h4.1
  obtain ⟨As, cs, rfl, _, _⟩ := Kd.R_reads h2
  obtain ⟨Am, cm, rfl, _, _⟩ := Kd.R_reads h3
  have H1 := Aside0.mk h1
  have H2 := Aside0.mk h2
  have H3 := Aside0.mk h3
  have H4 := Aside0.mk h4
  clear h1 h2 h3 h4
  go_enter Try.func29, Try.ntmps29
  go_wp2
  go_loopw [6] (fun v wr => v = .int .i64 0 ∧ Aside0 (wr = w)) (fun v _ => 0)
  case atStart => exact ⟨rfl, ⟨rfl⟩⟩
  case round =>
      obtain ⟨rfl, hw⟩ := hrel
      have hw := hw.out
      subst hw
      have K1 := H1
      have Y1 := H2
      have M1 := H3
      have L1 := H4
      have T1 : Aside0 (But B g wr wr) := ⟨.refl _ _ _⟩
      have hg0 := (blk_cell K1.out 0).trans rfl
      have S1 : Aside0 (B ≤ wr.heap.size) := ⟨Nat.le_trans hBs T1.out.size⟩
      obtain ⟨hs', hh⟩ : ∃ hs' : List Hd, hs' = hs ++ [(none, 0, 0)] := ⟨_, rfl⟩
      obtain ⟨ms', hm'⟩ : ∃ ms' : List Int, ms' = ms ++ [m] := ⟨_, rfl⟩
      have HH := Aside0.mk hh
      have HM := Aside0.mk hm'
      clear hh hm'
      go_wp2_with ((with_reducible refine gate_builtin (b := .append) (xs := #[.tmp 28, .tmp 30]) rfl ?_); at_builtin; refine Kd.R_append_row Hd.v (none, 0, 0) (h1 := fun _ => rfl) (w0 := _) B rfl (.tmp 28) (.tmp 30) 28 26 (.slice none 0 0) 24 rfl Try.underlying28 info26 rfl (by omega) (.slice As hs.length cs) hs [(none, 0, 0)] _ 1 1 (fun _ => True) rfl rfl (fun _ _ => trivial) (Kd.R_alloc Y1.out _) (hdr_new [(none, 0, 0)] (blk_new _ _) rfl (by simp)) (Below.refl _ _) ?aS ?aL ?_; (case aS => exact ((Below.refl B wr).alloc S1.out _).size |> Nat.le_trans S1.out); (case aL => omega); intro v5 w5 hR1 hB1 hg1 hat1; rw [← HH.out] at hR1; obtain ⟨A5, c5, rfl, hc5, hC5⟩ := Kd.R_reads hR1; have Y5 := Aside0.mk hR1; have K5 := Aside0.mk (blk_grown (blk_alloc K1.out _) hg1 (Kd.R_ne Y1.out K1.out (by decide))); have B5 := Aside0.mk hB1; have M5 := Aside0.mk (Kd.R_over (Kd.R_alloc M1.out _) (Kd.R_alloc Y1.out _) (by decide) hg1); have L5 : Aside0 (Markeds .u32 4294967296 23 w5 B hs ms) := ⟨Markeds.grown (L1.out.alloc _) (Kd.R_alloc Y1.out _) (by decide) hg1⟩; have Q5 := Aside0.mk ((Below.refl B wr).alloc S1.out _ |>.trans hB1); clear hR1 hB1 hg1 hat1 hC5; have fg5 := blk_frozen K5.out 0; have hg5 := (blk_cell K5.out 0).trans rfl)
      obtain ⟨W, hW⟩ : ∃ W, W = w5.setCell ⟨g, 0, none⟩ (.slice A5 hs'.length c5) := ⟨_, rfl⟩
      have KW : Aside0 (W.heap[g]? = some (.cells #[.slice A5 hs'.length c5, .slice none 0 0, .slice none 0 0, .slice none 0 0, (.slice Am ms.length cm), .slice none 0 0, .slice none 0 0, .slice none 0 0] 35 (0, 0))) := ⟨by rw [hW]; exact (blk_set K5.out 0 _).trans rfl⟩
      have YW : Aside0 (Kd.R hdr 26 W B (fun _ => True) (.slice A5 hs'.length c5) hs') := ⟨by rw [hW]; exact Kd.R_set Y5.out K5.out (by decide) 0 _⟩
      have MW : Aside0 (Kd.R intK 3 W B (fun _ => True) (.slice Am ms.length cm) ms) := ⟨by rw [hW]; exact Kd.R_set M5.out K5.out (by decide) 0 _⟩
      have LW : Aside0 (Markeds .u32 4294967296 23 W B hs ms) := ⟨by rw [hW]; exact Markeds.set L5.out K5.out (by decide) 0 _⟩
      have TW : Aside0 (But B g wr W) := ⟨by rw [hW]; exact (T1.out.trans (.of_below Q5.out)).set 0 _⟩
      rw [← hW]
      have K8 := Aside0.mk (blk_drew KW.out)
      have Y8 := Aside0.mk (Kd.R_drew YW.out)
      have M8 := Aside0.mk (Kd.R_drew MW.out)
      have L8 : Aside0 (Markeds .u32 4294967296 23 W.drew B hs ms) := ⟨Markeds.below LW.out (pw_below_drewN (Below.refl _ W) 1)⟩
      have T8 : Aside0 (But B g wr W.drew) := ⟨TW.out.trans (.of_below (pw_below_drewN (Below.refl _ W) 1))⟩
      have G8 : Aside0 (B ≤ W.drew.heap.size) := ⟨Nat.le_trans hBs T8.out.size⟩
      clear hW
      refine start_ (n := 13) (S := fun w' => w'.cell? ⟨g, 4, none⟩ = some (.slice Am ms.length cm)) (ds := [12]) #[false, false, false, false, false, false, false, false, false, false, false, false, false] (by kernel_rfl) rfl rfl ((blk_cell K8.out 4).trans rfl) (fun hHeld => ?_)
      refine pure_ (i := 0) (N := some 34) (v := ?_) (a' := ?_) #[true, false, false, false, false, false, false, false, false, false, false, false, false] rfl rfl (by kernel_rfl) (fun _ _ _ h => h) (Or.inl ⟨by rfl, ?_⟩) ?_ ?_
      rotate_left
      · intro w'
        go_simp
        with_reducible rfl
      rotate_left
      · simp only [Act.put, List.setIfInBounds_toArray, List.set_cons_zero, List.set_cons_succ, i64_w, i32_w]
        rfl
      refine pure_ (i := 1) (N := some 35) (v := ?_) (a' := ?_) #[true, true, false, false, false, false, false, false, false, false, false, false, false] rfl rfl (by kernel_rfl) (fun _ _ _ h => h) (Or.inl ⟨by rfl, ?_⟩) ?_ ?_
      rotate_left
      · intro w'
        go_simp
        with_reducible rfl
      rotate_left
      · simp only [Act.put, List.setIfInBounds_toArray, List.set_cons_zero, List.set_cons_succ, i64_w, i32_w]
        rfl
      refine pure_ (i := 2) (N := some 36) (v := ?_) (a' := ?_) #[true, true, true, false, false, false, false, false, false, false, false, false, false] rfl rfl (by kernel_rfl) (fun _ _ _ h => h) (Or.inl ⟨by rfl, ?_⟩) ?_ ?_
      rotate_left
      · intro w'
        go_simp
        with_reducible rfl
      rotate_left
      · simp only [Act.put, List.setIfInBounds_toArray, List.set_cons_zero, List.set_cons_succ, i64_w, i32_w]
        rfl
      refine pure_ (i := 3) (N := some 37) (v := ?_) (a' := ?_) #[true, true, true, true, false, false, false, false, false, false, false, false, false] rfl rfl (by kernel_rfl) (fun _ _ _ h => h) (Or.inl ⟨by rfl, ?_⟩) ?_ ?_
      rotate_left
      · intro w'
        go_simp
        with_reducible rfl
      rotate_left
      · simp only [Act.put, List.setIfInBounds_toArray, List.set_cons_zero, List.set_cons_succ, i64_w, i32_w]
        rfl
      refine pure_ (i := 4) (N := some 38) (v := ?_) (a' := ?_) #[true, true, true, true, true, false, false, false, false, false, false, false, false] rfl rfl (by kernel_rfl) (fun _ _ _ h => h) (Or.inl ⟨by rfl, ?_⟩) ?_ ?_
      rotate_left
      · intro w'
        go_simp
        with_reducible rfl
      rotate_left
      · simp only [Act.put, List.setIfInBounds_toArray, List.set_cons_zero, List.set_cons_succ, i64_w, i32_w]
        rfl
      refine pure_ (i := 6) (N := some 40) (v := ?_) (a' := ?_) #[true, true, true, true, true, false, true, false, false, false, false, false, false] rfl rfl (by kernel_rfl) (fun _ _ _ h => h) (Or.inl ⟨by rfl, ?_⟩) ?_ ?_
      rotate_left
      · intro w'
        go_simp
        with_reducible rfl
      rotate_left
      · simp only [Act.put, List.setIfInBounds_toArray, List.set_cons_zero, List.set_cons_succ, i64_w, i32_w]
        rfl
      refine pure_ (i := 9) (N := some 43) (v := ?_) (a' := ?_) #[true, true, true, true, true, false, true, false, false, true, false, false, false] rfl rfl (by kernel_rfl) (fun _ _ _ h => h) (Or.inl ⟨by rfl, ?_⟩) ?_ ?_
      rotate_left
      · intro w'
        go_simp
        with_reducible rfl
      rotate_left
      · simp only [Act.put, List.setIfInBounds_toArray, List.set_cons_zero, List.set_cons_succ, i64_w, i32_w]
        rfl
      refine pure_ (i := 10) (N := some 44) (v := ?_) (a' := ?_) #[true, true, true, true, true, false, true, false, false, true, true, false, false] rfl rfl (by kernel_rfl) (fun _ _ _ h => h) (Or.inl ⟨by rfl, ?_⟩) ?_ ?_
      rotate_left
      · intro w'
        go_simp
        with_reducible rfl
      rotate_left
      · simp only [Act.put, List.setIfInBounds_toArray, List.set_cons_zero, List.set_cons_succ, i64_w, i32_w]
        rfl
      refine take_ (i := 5) (N := some 39) (v := ?_) (a' := ?_) #[true, true, true, true, true, true, true, false, false, true, true, false, false] rfl rfl (by kernel_rfl) (fun _ _ _ h => h) (Or.inl ⟨by rfl, ?_⟩) hHeld ?_ ?_
      rotate_left
      · intro w' s0
        go_simp
        with_reducible rfl
      rotate_left
      · simp only [Act.put, List.setIfInBounds_toArray, List.set_cons_zero, List.set_cons_succ, i64_w, i32_w]
        rfl
      refine one_ (i := 7) (N := some 41) #[true, true, true, true, true, true, true, true, false, true, true, false, false] rfl rfl (by kernel_rfl) (by decide) (fun K hK => ?_)
      refine value_ (w1 := ?_) (v := ?_) (by rfl) rfl ?_ ?_
      rotate_left 2
      · go_simp
        constructor
        · rfl
        · rfl
      refine hK.out _ _ ((blk_cell (blk_alloc K8.out _) 4).trans rfl) (fun hHeld => ?_)
      clear hK K
      refine norm_ (a' := ?_) ?_ ?_
      rotate_left
      · show Act.put _ (some 41) _ = _
        simp only [Act.put, List.setIfInBounds_toArray, List.set_cons_zero, List.set_cons_succ, i64_w, i32_w]
        rfl
      refine one_ (i := 8) (N := some 42) #[true, true, true, true, true, true, true, true, true, true, true, false, false] rfl rfl (by kernel_rfl) (by decide) (fun K hK => ?_)
      refine Kd.R_append_step intK (w0 := _) B (by rfl) (.tmp 39) (.tmp 41) 32 3 (.int .i64 0) 8 rfl Try.underlying32 info3 rfl (by decide) (by omega) (.slice Am ms.length cm) ms m [.int .i64 m] (fun _ => True) (fun _ => False) rfl rfl ?aP (fun _ hk => hk.elim) (fun _ _ => trivial) (M8.out) (Below.refl _ _) ?aS ?aL ?_
      (case aP => exact rfl)
      (case aS => exact G8.out)
      (case aL => have := HSM.out; omega)
      intro v7 w7 hR1 hB1 hg1 hat1
      rw [← HM.out] at hR1
      obtain ⟨A7, c7, rfl, hc7, hC7⟩ := Kd.R_reads hR1
      have M7 := Aside0.mk hR1
      have B7 := Aside0.mk hB1
      have K7 := Aside0.mk (blk_grown K8.out hg1 (Kd.R_ne M8.out K8.out (by decide)))
      have Y7 := Aside0.mk (Kd.R_over Y8.out M8.out (by decide) hg1)
      have L7 : Aside0 (Markeds .u32 4294967296 23 w7 B hs ms) := ⟨Markeds.grown L8.out M8.out (by decide) hg1⟩
      clear hR1 hB1 hat1 hg1 hC7
      refine hK.out _ _ ((blk_cell K7.out 4).trans rfl) (fun hHeld => ?_)
      clear hK K
      refine norm_ (a' := ?_) ?_ ?_
      rotate_left
      · show Act.put _ (some 42) _ = _
        simp only [Act.put, List.setIfInBounds_toArray, List.set_cons_zero, List.set_cons_succ, i64_w, i32_w]
        rfl
      refine pure_ (i := 11) (N := some 45) (v := ?_) (a' := ?_) #[true, true, true, true, true, true, true, true, true, true, true, true, false] rfl rfl (by kernel_rfl) (fun _ _ _ h => h) (Or.inl ⟨by rfl, ?_⟩) ?_ ?_
      rotate_left
      · intro w'
        go_simp
        with_reducible rfl
      rotate_left
      · simp only [Act.put, List.setIfInBounds_toArray, List.set_cons_zero, List.set_cons_succ, i64_w, i32_w]
        rfl
      refine last_ (i := 12) (N := none) #[true, true, true, true, true, true, true, true, true, true, true, true, true] rfl rfl (by kernel_rfl) (by decide) (fun K hK => ?_)
      have f1 := blk_frozen K7.out 4
      refine skip_ (w1 := ?_) (by rfl) rfl ?_ ?_
      rotate_left
      · go_simp
        rfl
      refine hK.out _ _ ?_
      clear hK K
      refine done_ (by kernel_rfl) ?_
      try go_wp2
      go_end0
      rw [← HH.out, ← HM.out]
      refine ⟨rfl, ⟨_, _, (blk_set K7.out 4 _).trans rfl, Kd.R_set Y7.out K7.out (by decide) 4 _, Kd.R_set M7.out K7.out (by decide) 4 _, ?_⟩, (T8.out.trans (.of_below B7.out)).set 4 _⟩
      have hmk : Marked .u32 4294967296 23 w7 B (none, 0, 0) m := .inl ⟨rfl, rfl⟩
      have hsn := Markeds.snoc L7.out hmk
      rw [← HH.out, ← HM.out] at hsn
      exact hsn.set K7.out (by decide) 4 _
end Go.Proofs.Ytpmmnjpimnapfaa.A
