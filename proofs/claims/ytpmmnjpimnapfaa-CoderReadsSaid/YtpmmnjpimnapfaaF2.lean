import Derived.Test.YtpmmnjpimnapfaaF1
set_option linter.unusedVariables false
set_option linter.unusedSimpArgs false
namespace Go.Proofs.Ytpmmnjpimnapfaa.A
open Go.RowKit Go.Proofs.YtpmmnjpimnapfaaW.PrintWords Go.Proofs.YtpmmnjpimnapfaaW.PrintLast Go.Proofs.YtpmmnjpimnapfaaW.PrintMore

def intK : Kd Int := Kd.scalar (fun x : Int => Value.int .i64 x) (fun _ => rfl)
def mk (m : Int) (i : Nat) : Int := wrap64 ((wrap64 (wrap64 (wrap64 (m * 31) + wrap64 ((i : Int) * 7)) + 1)).tmod 250 + 1)
theorem mk_calls (m : Int) (i : Nat) (w : World) : Calls Try.prog 38 #[.int .i64 m, .int .i64 i] w fun e w' => e = .returned (.int .i64 (mk m i)) ∧ w = w' := mark_calls m i w
/-- all below B stays, but block g -/
structure But (B g : Nat) (w w' : World) : Prop where
  os : w'.os = w.os
  tape : w'.tape = w.tape
  output : w'.output = w.output
  size : w.heap.size ≤ w'.heap.size
  block : ∀ k, k < B → k ≠ g → w'.heap[k]? = w.heap[k]?
theorem But.refl (B g : Nat) (w : World) : But B g w w := ⟨rfl, rfl, rfl, Nat.le_refl _, fun _ _ _ => rfl⟩
theorem But.trans {B g : Nat} {a b c : World} (h : But B g a b) (k : But B g b c) : But B g a c := ⟨k.os.trans h.os, k.tape.trans h.tape, k.output.trans h.output, Nat.le_trans h.size k.size, fun i hi hn => (k.block i hi hn).trans (h.block i hi hn)⟩
theorem But.of_below {B g : Nat} {a b : World} (h : Below B a b) : But B g a b := ⟨h.os, h.tape, h.output, h.size, fun i hi _ => h.block i hi⟩
theorem But.set {B g : Nat} {a b : World} (h : But B g a b) (i : Nat) (u : Value) : But B g a (b.setCell ⟨g, i, none⟩ u) :=
  ⟨h.os, h.tape, h.output, by have := h.size; simpa [World.setCell] using this, fun k hk hn => (Below.heap_setCell b _ u k hn).trans (h.block k hk hn)⟩
theorem But.below {B g B0 : Nat} {a b : World} (h : But B g a b) (h1 : B0 ≤ B) (h2 : B0 ≤ g) : Below B0 a b := ⟨h.os, h.tape, h.output, h.size, fun i hi => h.block i (by omega) (by omega)⟩
def Marked (k : IntKind) (M : Int) (e : TypeId) (w : World) (B : Nat) (h : Hd) (m : Int) : Prop := (h.1 = none ∧ h.2.1 = 0) ∨ ∃ r cur, h.1 = some ⟨r, 0, none⟩ ∧ B ≤ r ∧ w.heap[r]? = some (.cells cur e (0, 0)) ∧ h.2.1 ≤ cur.size ∧ h.2.1 ≤ 9223372036854775807 ∧ ∀ j, j < h.2.1 → cur[j]? = some (.int k (mk m j % M))
theorem Marked.move {k : IntKind} {M : Int} {e : TypeId} {w w1 : World} {B : Nat} {h : Hd} {m : Int} (H : Marked k M e w B h m) (hm : ∀ r (cur : Array Value), h.1 = some ⟨r, 0, none⟩ → w.heap[r]? = some (Obj.cells cur e (0, 0)) → w1.heap[r]? = w.heap[r]?) : Marked k M e w1 B h m := by
  rcases H with H | ⟨r, cur, h1, hb, h2, h3⟩
  · exact .inl H
  · exact .inr ⟨r, cur, h1, hb, by rw [hm r cur h1 h2]; exact h2, h3⟩
def Markeds (k : IntKind) (M : Int) (e : TypeId) (w : World) (B : Nat) (hs : List Hd) (ms : List Int) : Prop := hs.length = ms.length ∧ ∀ i (h1 : i < hs.length) (h2 : i < ms.length), Marked k M e w B hs[i] ms[i]
theorem Markeds.move {k : IntKind} {M : Int} {e : TypeId} {w w1 : World} {B : Nat} {hs : List Hd} {ms : List Int} (H : Markeds k M e w B hs ms) (hm : ∀ (r : Nat) (cur : Array Value), w.heap[r]? = some (Obj.cells cur e (0, 0)) → w1.heap[r]? = w.heap[r]?) : Markeds k M e w1 B hs ms := ⟨H.1, fun i h1 h2 => (H.2 i h1 h2).move fun r cur _ h => hm r cur h⟩
theorem Markeds.grown {α : Type} {d : Kd α} {k : IntKind} {M : Int} {e e' : TypeId} {w w1 : World} {B base : Nat} {hs : List Hd} {ms : List Int} {ok : Nat → Prop} {v : Value} {xs : List α} (H : Markeds k M e w B hs ms) (hR : d.R e' w base ok v xs) (hne : e' ≠ e) (hg : w.grownBy w1 v.ownBlock) : Markeds k M e w1 B hs ms := H.move fun r cur hr => hg.block r (blk_lt hr) (Kd.R_ne hR hr hne)
theorem Markeds.below {k : IntKind} {M : Int} {e : TypeId} {w w1 : World} {B : Nat} {hs : List Hd} {ms : List Int} (H : Markeds k M e w B hs ms) (hb : Below w.heap.size w w1) : Markeds k M e w1 B hs ms := H.move fun r cur hr => hb.block r (blk_lt hr)
theorem Markeds.alloc {k : IntKind} {M : Int} {e : TypeId} {w : World} {B : Nat} {hs : List Hd} {ms : List Int} (H : Markeds k M e w B hs ms) (o : Obj) : Markeds k M e (w.alloc o) B hs ms := H.below ((Below.refl _ _).alloc (Nat.le_refl _) o)
theorem Markeds.set {k : IntKind} {M : Int} {e t : TypeId} {w : World} {B g : Nat} {cs : Array Value} {hs : List Hd} {ms : List Int} (H : Markeds k M e w B hs ms) (hK : w.heap[g]? = some (.cells cs t (0, 0))) (ht : e ≠ t) (i : Nat) (u : Value) : Markeds k M e (w.setCell ⟨g, i, none⟩ u) B hs ms := H.move fun r cur hr => Below.heap_setCell w _ u r (blk_ne hr hK ht)
theorem Markeds.snoc {k : IntKind} {M : Int} {e : TypeId} {w : World} {B : Nat} {hs : List Hd} {ms : List Int} {h : Hd} {m : Int} (H : Markeds k M e w B hs ms) (h1 : Marked k M e w B h m) : Markeds k M e w B (hs ++ [h]) (ms ++ [m]) := by
  refine ⟨by simp [H.1], fun i h2 h3 => ?_⟩
  by_cases hi : i < hs.length
  · have hi' : i < ms.length := by have := H.1; omega
    rw [List.getElem_append_left hi, List.getElem_append_left hi']; exact H.2 i hi hi'
  · have e1 : i = hs.length := by simp at h2; omega
    subst e1
    rw [List.getElem_append_right (Nat.le_refl _), List.getElem_append_right (by have := H.1; omega)]
    simpa using h1
/-- none of the kept lists lies in block r -/
def Apart (hs : List Hd) (r : Nat) : Prop := ∀ h ∈ hs, ∀ ad, h.1 = some ad → ad.block ≠ r
theorem Markeds.apart {k : IntKind} {M : Int} {e : TypeId} {w w1 : World} {B r : Nat} {hs : List Hd} {ms : List Int} (H : Markeds k M e w B hs ms) (hA : Apart hs r) (hg : w.grownBy w1 (some r)) : Markeds k M e w1 B hs ms :=
  ⟨H.1, fun i h1 h2 => (H.2 i h1 h2).move fun r' cur h3 h4 => hg.block r' (blk_lt h4) (fun e => hA _ (List.getElem_mem h1) _ h3 (by injection e))⟩

def BkBytes (w : World) (g B : Nat) (hs : List Hd) (ms : List Int) : Prop := ∃ v vm, w.heap[g]? = some (.cells #[.slice none 0 0, v, .slice none 0 0, .slice none 0 0, .slice none 0 0, vm, .slice none 0 0, .slice none 0 0] 35 (0, 0)) ∧ Kd.R hdr 40 w B (fun _ => True) v hs ∧ Kd.R intK 3 w B (fun _ => True) vm ms ∧ Markeds .u8 256 5 w B hs ms
theorem BkBytes.below {w w1 : World} {g B : Nat} {hs : List Hd} {ms : List Int} (h : BkBytes w g B hs ms) (hb : Below w.heap.size w w1) : BkBytes w1 g B hs ms := by
  obtain ⟨v, vm, h1, h2, h3, h4⟩ := h
  exact ⟨v, vm, blk_below h1 hb, Kd.R_below h2 hb, Kd.R_below h3 hb, Markeds.below h4 hb⟩
set_option maxHeartbeats 8000000 in
set_option maxRecDepth 100000 in
theorem markBytes (g B r n c : Nat) (cur : Array Value) (m : Int) (hs : List Hd) (ms : List Int) (w : World) (hK : BkBytes w g B hs ms) (hgB : g < B) (hBs : B ≤ w.heap.size) (hr : w.heap[r]? = some (.cells cur 5 (0, 0))) (hrB : B ≤ r) (hnc : n ≤ c) (hc : c ≤ cur.size) (hcm : c ≤ 9223372036854775807) (hA : Apart hs r) (hlen : hs.length ≤ 1000000) :
    Calls Try.prog 22 #[.pointer (some ⟨g, 0, none⟩), .slice (some ⟨r, 0, none⟩) n c, .int .i64 m] w fun e w' => e = .returned (.tuple #[]) ∧ BkBytes w' g B (hs ++ [(some ⟨r, 0, none⟩, c, c)]) (ms ++ [m]) ∧ But B g w w' := by
  obtain ⟨v, vm, h1, h2, h3, h4⟩ := hK
  have HSM := Aside0.mk h4.1
  obtain ⟨As, cs, rfl, _, _⟩ := Kd.R_reads h2
  obtain ⟨Am, cm, rfl, _, _⟩ := Kd.R_reads h3
  have H1 := Aside0.mk h1
  have H2 := Aside0.mk h2
  have H3 := Aside0.mk h3
  have H4 := Aside0.mk h4
  have HR := Aside0.mk hr
  have HCZ := Aside0.mk hc
  have hgr : Aside0 (g ≠ r) := ⟨by omega⟩
  clear h1 h2 h3 h4 hr hc
  go_enter Try.func22, Try.ntmps22
  go_wp2
  go_loopw [6] (fun v wr => ∃ (j : Nat) (cur' : Array Value), j ≤ c ∧ v = .int .i64 j ∧ cur'.size = cur.size ∧ Aside0 (∀ i, i < j → cur'[i]? = some (.int .u8 (mk m i % 256))) ∧ Aside0 (wr.heap[r]? = some (.cells cur' 5 (0, 0))) ∧ Aside0 (w.grownBy wr (some r))) (fun v _ => c - (intOf v).toNat)
  case atStart => exact ⟨0, cur, by omega, rfl, rfl, ⟨fun i hi => by omega⟩, HR, ⟨World.grownBy.refl w _⟩⟩
  case round =>
    obtain ⟨j, cur', hj, rfl, hz, HI, HR1, HG⟩ := hrel
    by_cases hlt : j < c
    · have x0 : wr.cell? ⟨r, j, none⟩ = some cur'[j]! := by
        rw [blk_cell HR1.out j, Array.getElem?_eq_getElem (by have := HCZ.out; omega), getElem!_pos cur' j (by have := HCZ.out; omega)]
      have x1 := blk_frozen HR1.out j
      have HZ := Aside0.mk hz
      clear hz
      go_wp2_with (go_at_call 38; refine (mk_calls m j _).mono ?_; rintro e w2 ⟨rfl, rfl⟩)
      refine ⟨⟨j + 1, cur'.set! j (.int .u8 (mk m j % 256)), by omega, by go_num, by rw [Array.size_set!]; exact HZ.out, ⟨fun i hi => ?_⟩, ⟨(blk_set HR1.out j _).trans (by rw [Array.set!_eq_setIfInBounds])⟩, ⟨gset HG.out j _⟩⟩, by simp [intOf]; omega⟩
      rw [Array.set!_eq_setIfInBounds, Array.getElem?_setIfInBounds]
      by_cases hij : j = i
      · subst hij
        rw [if_pos rfl, if_pos (by have := HZ.out; have := HCZ.out; omega)]
      · rw [if_neg hij]; exact HI.out i (by omega)
    · obtain rfl : c = j := by omega
      have HZ := Aside0.mk hz
      clear hz
      have K1 := Aside0.mk (blk_grown H1.out HG.out (by intro e; injection e; omega))
      have Y1 := Aside0.mk (Kd.R_mono (Kd.R_grown (Kd.R_types H2.out HR.out (by decide)) HG.out (fun k hk he => hk.2 (by injection he))) (fun _ _ => trivial))
      have M1 := Aside0.mk (Kd.R_mono (Kd.R_grown (Kd.R_types H3.out HR.out (by decide)) HG.out (fun k hk he => hk.2 (by injection he))) (fun _ _ => trivial))
      have L1 := Aside0.mk (H4.out.apart hA HG.out)
      have T1 : Aside0 (But B g w wr) := ⟨.of_below (below_of_grown HG.out hrB hBs)⟩
      have hg0 := (blk_cell K1.out 1).trans rfl
      have S1 : Aside0 (B ≤ wr.heap.size) := ⟨Nat.le_trans hBs T1.out.size⟩
      obtain ⟨hs', hh⟩ : ∃ hs' : List Hd, hs' = hs ++ [(some ⟨r, 0, none⟩, c, c)] := ⟨_, rfl⟩
      obtain ⟨ms', hm'⟩ : ∃ ms' : List Int, ms' = ms ++ [m] := ⟨_, rfl⟩
      have HH := Aside0.mk hh
      have HM := Aside0.mk hm'
      clear hh hm'
      go_wp2_with ((with_reducible refine gate_builtin (b := .append) (xs := #[.tmp 28, .tmp 30]) rfl ?_); at_builtin; refine Kd.R_append_row Hd.v (none, 0, 0) (h1 := fun _ => rfl) (w0 := _) B rfl (.tmp 28) (.tmp 30) 29 40 (.slice none 0 0) 24 rfl Try.underlying29 info40 rfl (by omega) (.slice As hs.length cs) hs [(some ⟨r, 0, none⟩, c, c)] _ 1 1 (fun _ => True) rfl rfl (fun _ _ => trivial) (Kd.R_alloc Y1.out _) (hdr_new [(some ⟨r, 0, none⟩, c, c)] (blk_new _ _) rfl (by simp)) (Below.refl _ _) ?aS ?aL ?_; (case aS => exact ((Below.refl B wr).alloc S1.out _).size |> Nat.le_trans S1.out); (case aL => omega); intro v5 w5 hR1 hB1 hg1 hat1; rw [← HH.out] at hR1; obtain ⟨A5, c5, rfl, hc5, hC5⟩ := Kd.R_reads hR1; have Y5 := Aside0.mk hR1; have K5 := Aside0.mk (blk_grown (blk_alloc K1.out _) hg1 (Kd.R_ne Y1.out K1.out (by decide))); have B5 := Aside0.mk hB1; have M5 := Aside0.mk (Kd.R_over (Kd.R_alloc M1.out _) (Kd.R_alloc Y1.out _) (by decide) hg1); have L5 : Aside0 (Markeds .u8 256 5 w5 B hs ms) := ⟨Markeds.grown (L1.out.alloc _) (Kd.R_alloc Y1.out _) (by decide) hg1⟩; have R5 := Aside0.mk (blk_grown (blk_alloc HR1.out _) hg1 (Kd.R_ne Y1.out HR1.out (by decide))); have Q5 := Aside0.mk ((Below.refl B wr).alloc S1.out _ |>.trans hB1); clear hR1 hB1 hg1 hat1 hC5; have fg5 := blk_frozen K5.out 1; have hg5 := (blk_cell K5.out 1).trans rfl)
      obtain ⟨W, hW⟩ : ∃ W, W = w5.setCell ⟨g, 1, none⟩ (.slice A5 hs'.length c5) := ⟨_, rfl⟩
      have KW : Aside0 (W.heap[g]? = some (.cells #[.slice none 0 0, .slice A5 hs'.length c5, .slice none 0 0, .slice none 0 0, .slice none 0 0, (.slice Am ms.length cm), .slice none 0 0, .slice none 0 0] 35 (0, 0))) := ⟨by rw [hW]; exact (blk_set K5.out 1 _).trans rfl⟩
      have YW : Aside0 (Kd.R hdr 40 W B (fun _ => True) (.slice A5 hs'.length c5) hs') := ⟨by rw [hW]; exact Kd.R_set Y5.out K5.out (by decide) 1 _⟩
      have MW : Aside0 (Kd.R intK 3 W B (fun _ => True) (.slice Am ms.length cm) ms) := ⟨by rw [hW]; exact Kd.R_set M5.out K5.out (by decide) 1 _⟩
      have LW : Aside0 (Markeds .u8 256 5 W B hs ms) := ⟨by rw [hW]; exact Markeds.set L5.out K5.out (by decide) 1 _⟩
      have RW : Aside0 (W.heap[r]? = some (.cells cur' 5 (0, 0))) := ⟨by rw [hW]; exact (Below.heap_setCell w5 _ _ r (fun h => hgr.out h.symm)).trans R5.out⟩
      have TW : Aside0 (But B g w W) := ⟨by rw [hW]; exact (T1.out.trans (.of_below Q5.out)).set 1 _⟩
      rw [← hW]
      have K8 := Aside0.mk (blk_drew KW.out)
      have Y8 := Aside0.mk (Kd.R_drew YW.out)
      have M8 := Aside0.mk (Kd.R_drew MW.out)
      have L8 : Aside0 (Markeds .u8 256 5 W.drew B hs ms) := ⟨Markeds.below LW.out (pw_below_drewN (Below.refl _ W) 1)⟩
      have R8 := Aside0.mk (blk_drew RW.out)
      have T8 : Aside0 (But B g w W.drew) := ⟨TW.out.trans (.of_below (pw_below_drewN (Below.refl _ W) 1))⟩
      have G8 : Aside0 (B ≤ W.drew.heap.size) := ⟨Nat.le_trans hBs T8.out.size⟩
      clear hW
      refine start_ (n := 13) (S := fun w' => w'.cell? ⟨g, 5, none⟩ = some (.slice Am ms.length cm)) (ds := [12]) #[false, false, false, false, false, false, false, false, false, false, false, false, false] (by kernel_rfl) rfl rfl ((blk_cell K8.out 5).trans rfl) (fun hHeld => ?_)
      refine pure_ (i := 0) (N := some 34) (v := ?_) (a' := ?_) #[true, false, false, false, false, false, false, false, false, false, false, false, false] rfl rfl (by kernel_rfl) (fun _ _ _ h => h) (Or.inl ⟨by rfl, ?_⟩) ?_ ?_
      rotate_left
      · intro w'
        go_simp
        with_reducible rfl
      rotate_left
      · simp only [Act.put, List.setIfInBounds_toArray, List.set_cons_zero, List.set_cons_succ, i64_w, i32_w]
        rfl
      refine pure_ (i := 1) (N := some 35) (v := ?_) (a' := ?_) #[true, true, false, false, false, false, false, false, false, false, false, false, false] rfl rfl (by kernel_rfl) (fun _ _ _ h => h) (Or.inl ⟨by rfl, ?_⟩) ?_ ?_
      rotate_left
      · intro w'
        go_simp
        with_reducible rfl
      rotate_left
      · simp only [Act.put, List.setIfInBounds_toArray, List.set_cons_zero, List.set_cons_succ, i64_w, i32_w]
        rfl
      refine pure_ (i := 2) (N := some 36) (v := ?_) (a' := ?_) #[true, true, true, false, false, false, false, false, false, false, false, false, false] rfl rfl (by kernel_rfl) (fun _ _ _ h => h) (Or.inl ⟨by rfl, ?_⟩) ?_ ?_
      rotate_left
      · intro w'
        go_simp
        with_reducible rfl
      rotate_left
      · simp only [Act.put, List.setIfInBounds_toArray, List.set_cons_zero, List.set_cons_succ, i64_w, i32_w]
        rfl
      refine pure_ (i := 3) (N := some 37) (v := ?_) (a' := ?_) #[true, true, true, true, false, false, false, false, false, false, false, false, false] rfl rfl (by kernel_rfl) (fun _ _ _ h => h) (Or.inl ⟨by rfl, ?_⟩) ?_ ?_
      rotate_left
      · intro w'
        go_simp
        with_reducible rfl
      rotate_left
      · simp only [Act.put, List.setIfInBounds_toArray, List.set_cons_zero, List.set_cons_succ, i64_w, i32_w]
        rfl
      refine pure_ (i := 4) (N := some 38) (v := ?_) (a' := ?_) #[true, true, true, true, true, false, false, false, false, false, false, false, false] rfl rfl (by kernel_rfl) (fun _ _ _ h => h) (Or.inl ⟨by rfl, ?_⟩) ?_ ?_
      rotate_left
      · intro w'
        go_simp
        with_reducible rfl
      rotate_left
      · simp only [Act.put, List.setIfInBounds_toArray, List.set_cons_zero, List.set_cons_succ, i64_w, i32_w]
        rfl
      refine pure_ (i := 6) (N := some 40) (v := ?_) (a' := ?_) #[true, true, true, true, true, false, true, false, false, false, false, false, false] rfl rfl (by kernel_rfl) (fun _ _ _ h => h) (Or.inl ⟨by rfl, ?_⟩) ?_ ?_
      rotate_left
      · intro w'
        go_simp
        with_reducible rfl
      rotate_left
      · simp only [Act.put, List.setIfInBounds_toArray, List.set_cons_zero, List.set_cons_succ, i64_w, i32_w]
        rfl
      refine pure_ (i := 9) (N := some 43) (v := ?_) (a' := ?_) #[true, true, true, true, true, false, true, false, false, true, false, false, false] rfl rfl (by kernel_rfl) (fun _ _ _ h => h) (Or.inl ⟨by rfl, ?_⟩) ?_ ?_
      rotate_left
      · intro w'
        go_simp
        with_reducible rfl
      rotate_left
      · simp only [Act.put, List.setIfInBounds_toArray, List.set_cons_zero, List.set_cons_succ, i64_w, i32_w]
        rfl
      refine pure_ (i := 10) (N := some 44) (v := ?_) (a' := ?_) #[true, true, true, true, true, false, true, false, false, true, true, false, false] rfl rfl (by kernel_rfl) (fun _ _ _ h => h) (Or.inl ⟨by rfl, ?_⟩) ?_ ?_
      rotate_left
      · intro w'
        go_simp
        with_reducible rfl
      rotate_left
      · simp only [Act.put, List.setIfInBounds_toArray, List.set_cons_zero, List.set_cons_succ, i64_w, i32_w]
        rfl
      refine take_ (i := 5) (N := some 39) (v := ?_) (a' := ?_) #[true, true, true, true, true, true, true, false, false, true, true, false, false] rfl rfl (by kernel_rfl) (fun _ _ _ h => h) (Or.inl ⟨by rfl, ?_⟩) hHeld ?_ ?_
      rotate_left
      · intro w' s0
        go_simp
        with_reducible rfl
      rotate_left
      · simp only [Act.put, List.setIfInBounds_toArray, List.set_cons_zero, List.set_cons_succ, i64_w, i32_w]
        rfl
      refine one_ (i := 7) (N := some 41) #[true, true, true, true, true, true, true, true, false, true, true, false, false] rfl rfl (by kernel_rfl) (by decide) (fun K hK => ?_)
      refine value_ (w1 := ?_) (v := ?_) (by rfl) rfl ?_ ?_
      rotate_left 2
      · go_simp
        constructor
        · rfl
        · rfl
      refine hK.out _ _ ((blk_cell (blk_alloc K8.out _) 5).trans rfl) (fun hHeld => ?_)
      clear hK K
      refine norm_ (a' := ?_) ?_ ?_
      rotate_left
      · show Act.put _ (some 41) _ = _
        simp only [Act.put, List.setIfInBounds_toArray, List.set_cons_zero, List.set_cons_succ, i64_w, i32_w]
        rfl
      refine one_ (i := 8) (N := some 42) #[true, true, true, true, true, true, true, true, true, true, true, false, false] rfl rfl (by kernel_rfl) (by decide) (fun K hK => ?_)
      refine Kd.R_append_step intK (w0 := _) B (by rfl) (.tmp 39) (.tmp 41) 32 3 (.int .i64 0) 8 rfl Try.underlying32 info3 rfl (by decide) (by omega) (.slice Am ms.length cm) ms m [.int .i64 m] (fun _ => True) (fun _ => False) rfl rfl ?aP (fun _ hk => hk.elim) (fun _ _ => trivial) (M8.out) (Below.refl _ _) ?aS ?aL ?_
      (case aP => exact rfl)
      (case aS => exact G8.out)
      (case aL => have := HSM.out; omega)
      intro v7 w7 hR1 hB1 hg1 hat1
      rw [← HM.out] at hR1
      obtain ⟨A7, c7, rfl, hc7, hC7⟩ := Kd.R_reads hR1
      have M7 := Aside0.mk hR1
      have B7 := Aside0.mk hB1
      have K7 := Aside0.mk (blk_grown K8.out hg1 (Kd.R_ne M8.out K8.out (by decide)))
      have Y7 := Aside0.mk (Kd.R_over Y8.out M8.out (by decide) hg1)
      have L7 : Aside0 (Markeds .u8 256 5 w7 B hs ms) := ⟨Markeds.grown L8.out M8.out (by decide) hg1⟩
      have R7 := Aside0.mk (blk_grown R8.out hg1 (Kd.R_ne M8.out R8.out (by decide)))
      clear hR1 hB1 hat1 hg1 hC7
      refine hK.out _ _ ((blk_cell K7.out 5).trans rfl) (fun hHeld => ?_)
      clear hK K
      refine norm_ (a' := ?_) ?_ ?_
      rotate_left
      · show Act.put _ (some 42) _ = _
        simp only [Act.put, List.setIfInBounds_toArray, List.set_cons_zero, List.set_cons_succ, i64_w, i32_w]
        rfl
      refine pure_ (i := 11) (N := some 45) (v := ?_) (a' := ?_) #[true, true, true, true, true, true, true, true, true, true, true, true, false] rfl rfl (by kernel_rfl) (fun _ _ _ h => h) (Or.inl ⟨by rfl, ?_⟩) ?_ ?_
      rotate_left
      · intro w'
        go_simp
        with_reducible rfl
      rotate_left
      · simp only [Act.put, List.setIfInBounds_toArray, List.set_cons_zero, List.set_cons_succ, i64_w, i32_w]
        rfl
      refine last_ (i := 12) (N := none) #[true, true, true, true, true, true, true, true, true, true, true, true, true] rfl rfl (by kernel_rfl) (by decide) (fun K hK => ?_)
      have f1 := blk_frozen K7.out 5
      refine skip_ (w1 := ?_) (by rfl) rfl ?_ ?_
      rotate_left
      · go_simp
        rfl
      refine hK.out _ _ ?_
      clear hK K
      refine done_ (by kernel_rfl) ?_
      try go_wp2
      go_end0
      rw [← HH.out, ← HM.out]
      refine ⟨rfl, ⟨_, _, (blk_set K7.out 5 _).trans rfl, Kd.R_set Y7.out K7.out (by decide) 5 _, Kd.R_set M7.out K7.out (by decide) 5 _, ?_⟩, (T8.out.trans (.of_below B7.out)).set 5 _⟩
      have hmk : Marked .u8 256 5 w7 B (some ⟨r, 0, none⟩, c, c) m := .inr ⟨r, cur', rfl, hrB, R7.out, by have := HZ.out; have := HCZ.out; simp only; omega, hcm, fun j hj => HI.out j hj⟩
      have hsn := Markeds.snoc L7.out hmk
      rw [← HH.out, ← HM.out] at hsn
      exact hsn.set K7.out (by decide) 5 _

def BkSamples (w : World) (g B : Nat) (hs : List Hd) (ms : List Int) : Prop := ∃ v vm, w.heap[g]? = some (.cells #[v, .slice none 0 0, .slice none 0 0, .slice none 0 0, vm, .slice none 0 0, .slice none 0 0, .slice none 0 0] 35 (0, 0)) ∧ Kd.R hdr 26 w B (fun _ => True) v hs ∧ Kd.R intK 3 w B (fun _ => True) vm ms ∧ Markeds .u32 4294967296 23 w B hs ms
theorem BkSamples.below {w w1 : World} {g B : Nat} {hs : List Hd} {ms : List Int} (h : BkSamples w g B hs ms) (hb : Below w.heap.size w w1) : BkSamples w1 g B hs ms := by
  obtain ⟨v, vm, h1, h2, h3, h4⟩ := h
  exact ⟨v, vm, blk_below h1 hb, Kd.R_below h2 hb, Kd.R_below h3 hb, Markeds.below h4 hb⟩
set_option maxHeartbeats 8000000 in
set_option maxRecDepth 100000 in
theorem markSamples (g B r n c : Nat) (cur : Array Value) (m : Int) (hs : List Hd) (ms : List Int) (w : World) (hK : BkSamples w g B hs ms) (hgB : g < B) (hBs : B ≤ w.heap.size) (hr : w.heap[r]? = some (.cells cur 23 (0, 0))) (hrB : B ≤ r) (hnc : n ≤ c) (hc : c ≤ cur.size) (hcm : c ≤ 9223372036854775807) (hA : Apart hs r) (hlen : hs.length ≤ 1000000) :
    Calls Try.prog 29 #[.pointer (some ⟨g, 0, none⟩), .slice (some ⟨r, 0, none⟩) n c, .int .i64 m] w fun e w' => e = .returned (.tuple #[]) ∧ BkSamples w' g B (hs ++ [(some ⟨r, 0, none⟩, c, c)]) (ms ++ [m]) ∧ But B g w w' := by
  obtain ⟨v, vm, h1, h2, h3, h4⟩ := hK
  have HSM := Aside0.mk h4.1
  obtain ⟨As, cs, rfl, _, _⟩ := Kd.R_reads h2
  obtain ⟨Am, cm, rfl, _, _⟩ := Kd.R_reads h3
  have H1 := Aside0.mk h1
  have H2 := Aside0.mk h2
  have H3 := Aside0.mk h3
  have H4 := Aside0.mk h4
  have HR := Aside0.mk hr
  have HCZ := Aside0.mk hc
  have hgr : Aside0 (g ≠ r) := ⟨by omega⟩
  clear h1 h2 h3 h4 hr hc
  go_enter Try.func29, Try.ntmps29
  go_wp2
  go_loopw [6] (fun v wr => ∃ (j : Nat) (cur' : Array Value), j ≤ c ∧ v = .int .i64 j ∧ cur'.size = cur.size ∧ Aside0 (∀ i, i < j → cur'[i]? = some (.int .u32 (mk m i % 4294967296))) ∧ Aside0 (wr.heap[r]? = some (.cells cur' 23 (0, 0))) ∧ Aside0 (w.grownBy wr (some r))) (fun v _ => c - (intOf v).toNat)
  case atStart => exact ⟨0, cur, by omega, rfl, rfl, ⟨fun i hi => by omega⟩, HR, ⟨World.grownBy.refl w _⟩⟩
  case round =>
    obtain ⟨j, cur', hj, rfl, hz, HI, HR1, HG⟩ := hrel
    by_cases hlt : j < c
    · have x0 : wr.cell? ⟨r, j, none⟩ = some cur'[j]! := by
        rw [blk_cell HR1.out j, Array.getElem?_eq_getElem (by have := HCZ.out; omega), getElem!_pos cur' j (by have := HCZ.out; omega)]
      have x1 := blk_frozen HR1.out j
      have HZ := Aside0.mk hz
      clear hz
      go_wp2_with (go_at_call 38; refine (mk_calls m j _).mono ?_; rintro e w2 ⟨rfl, rfl⟩)
      refine ⟨⟨j + 1, cur'.set! j (.int .u32 (mk m j % 4294967296)), by omega, by go_num, by rw [Array.size_set!]; exact HZ.out, ⟨fun i hi => ?_⟩, ⟨(blk_set HR1.out j _).trans (by rw [Array.set!_eq_setIfInBounds])⟩, ⟨gset HG.out j _⟩⟩, by simp [intOf]; omega⟩
      rw [Array.set!_eq_setIfInBounds, Array.getElem?_setIfInBounds]
      by_cases hij : j = i
      · subst hij
        rw [if_pos rfl, if_pos (by have := HZ.out; have := HCZ.out; omega)]
      · rw [if_neg hij]; exact HI.out i (by omega)
    · obtain rfl : c = j := by omega
      have HZ := Aside0.mk hz
      clear hz
      have K1 := Aside0.mk (blk_grown H1.out HG.out (by intro e; injection e; omega))
      have Y1 := Aside0.mk (Kd.R_mono (Kd.R_grown (Kd.R_types H2.out HR.out (by decide)) HG.out (fun k hk he => hk.2 (by injection he))) (fun _ _ => trivial))
      have M1 := Aside0.mk (Kd.R_mono (Kd.R_grown (Kd.R_types H3.out HR.out (by decide)) HG.out (fun k hk he => hk.2 (by injection he))) (fun _ _ => trivial))
      have L1 := Aside0.mk (H4.out.apart hA HG.out)
      have T1 : Aside0 (But B g w wr) := ⟨.of_below (below_of_grown HG.out hrB hBs)⟩
      have hg0 := (blk_cell K1.out 0).trans rfl
      have S1 : Aside0 (B ≤ wr.heap.size) := ⟨Nat.le_trans hBs T1.out.size⟩
      obtain ⟨hs', hh⟩ : ∃ hs' : List Hd, hs' = hs ++ [(some ⟨r, 0, none⟩, c, c)] := ⟨_, rfl⟩
      obtain ⟨ms', hm'⟩ : ∃ ms' : List Int, ms' = ms ++ [m] := ⟨_, rfl⟩
      have HH := Aside0.mk hh
      have HM := Aside0.mk hm'
      clear hh hm'
      go_wp2_with ((with_reducible refine gate_builtin (b := .append) (xs := #[.tmp 28, .tmp 30]) rfl ?_); at_builtin; refine Kd.R_append_row Hd.v (none, 0, 0) (h1 := fun _ => rfl) (w0 := _) B rfl (.tmp 28) (.tmp 30) 28 26 (.slice none 0 0) 24 rfl Try.underlying28 info26 rfl (by omega) (.slice As hs.length cs) hs [(some ⟨r, 0, none⟩, c, c)] _ 1 1 (fun _ => True) rfl rfl (fun _ _ => trivial) (Kd.R_alloc Y1.out _) (hdr_new [(some ⟨r, 0, none⟩, c, c)] (blk_new _ _) rfl (by simp)) (Below.refl _ _) ?aS ?aL ?_; (case aS => exact ((Below.refl B wr).alloc S1.out _).size |> Nat.le_trans S1.out); (case aL => omega); intro v5 w5 hR1 hB1 hg1 hat1; rw [← HH.out] at hR1; obtain ⟨A5, c5, rfl, hc5, hC5⟩ := Kd.R_reads hR1; have Y5 := Aside0.mk hR1; have K5 := Aside0.mk (blk_grown (blk_alloc K1.out _) hg1 (Kd.R_ne Y1.out K1.out (by decide))); have B5 := Aside0.mk hB1; have M5 := Aside0.mk (Kd.R_over (Kd.R_alloc M1.out _) (Kd.R_alloc Y1.out _) (by decide) hg1); have L5 : Aside0 (Markeds .u32 4294967296 23 w5 B hs ms) := ⟨Markeds.grown (L1.out.alloc _) (Kd.R_alloc Y1.out _) (by decide) hg1⟩; have R5 := Aside0.mk (blk_grown (blk_alloc HR1.out _) hg1 (Kd.R_ne Y1.out HR1.out (by decide))); have Q5 := Aside0.mk ((Below.refl B wr).alloc S1.out _ |>.trans hB1); clear hR1 hB1 hg1 hat1 hC5; have fg5 := blk_frozen K5.out 0; have hg5 := (blk_cell K5.out 0).trans rfl)
      obtain ⟨W, hW⟩ : ∃ W, W = w5.setCell ⟨g, 0, none⟩ (.slice A5 hs'.length c5) := ⟨_, rfl⟩
      have KW : Aside0 (W.heap[g]? = some (.cells #[.slice A5 hs'.length c5, .slice none 0 0, .slice none 0 0, .slice none 0 0, (.slice Am ms.length cm), .slice none 0 0, .slice none 0 0, .slice none 0 0] 35 (0, 0))) := ⟨by rw [hW]; exact (blk_set K5.out 0 _).trans rfl⟩
      have YW : Aside0 (Kd.R hdr 26 W B (fun _ => True) (.slice A5 hs'.length c5) hs') := ⟨by rw [hW]; exact Kd.R_set Y5.out K5.out (by decide) 0 _⟩
      have MW : Aside0 (Kd.R intK 3 W B (fun _ => True) (.slice Am ms.length cm) ms) := ⟨by rw [hW]; exact Kd.R_set M5.out K5.out (by decide) 0 _⟩
      have LW : Aside0 (Markeds .u32 4294967296 23 W B hs ms) := ⟨by rw [hW]; exact Markeds.set L5.out K5.out (by decide) 0 _⟩
      have RW : Aside0 (W.heap[r]? = some (.cells cur' 23 (0, 0))) := ⟨by rw [hW]; exact (Below.heap_setCell w5 _ _ r (fun h => hgr.out h.symm)).trans R5.out⟩
      have TW : Aside0 (But B g w W) := ⟨by rw [hW]; exact (T1.out.trans (.of_below Q5.out)).set 0 _⟩
      rw [← hW]
      have K8 := Aside0.mk (blk_drew KW.out)
      have Y8 := Aside0.mk (Kd.R_drew YW.out)
      have M8 := Aside0.mk (Kd.R_drew MW.out)
      have L8 : Aside0 (Markeds .u32 4294967296 23 W.drew B hs ms) := ⟨Markeds.below LW.out (pw_below_drewN (Below.refl _ W) 1)⟩
      have R8 := Aside0.mk (blk_drew RW.out)
      have T8 : Aside0 (But B g w W.drew) := ⟨TW.out.trans (.of_below (pw_below_drewN (Below.refl _ W) 1))⟩
      have G8 : Aside0 (B ≤ W.drew.heap.size) := ⟨Nat.le_trans hBs T8.out.size⟩
      clear hW
      refine start_ (n := 13) (S := fun w' => w'.cell? ⟨g, 4, none⟩ = some (.slice Am ms.length cm)) (ds := [12]) #[false, false, false, false, false, false, false, false, false, false, false, false, false] (by kernel_rfl) rfl rfl ((blk_cell K8.out 4).trans rfl) (fun hHeld => ?_)
      refine pure_ (i := 0) (N := some 34) (v := ?_) (a' := ?_) #[true, false, false, false, false, false, false, false, false, false, false, false, false] rfl rfl (by kernel_rfl) (fun _ _ _ h => h) (Or.inl ⟨by rfl, ?_⟩) ?_ ?_
      rotate_left
      · intro w'
        go_simp
        with_reducible rfl
      rotate_left
      · simp only [Act.put, List.setIfInBounds_toArray, List.set_cons_zero, List.set_cons_succ, i64_w, i32_w]
        rfl
      refine pure_ (i := 1) (N := some 35) (v := ?_) (a' := ?_) #[true, true, false, false, false, false, false, false, false, false, false, false, false] rfl rfl (by kernel_rfl) (fun _ _ _ h => h) (Or.inl ⟨by rfl, ?_⟩) ?_ ?_
      rotate_left
      · intro w'
        go_simp
        with_reducible rfl
      rotate_left
      · simp only [Act.put, List.setIfInBounds_toArray, List.set_cons_zero, List.set_cons_succ, i64_w, i32_w]
        rfl
      refine pure_ (i := 2) (N := some 36) (v := ?_) (a' := ?_) #[true, true, true, false, false, false, false, false, false, false, false, false, false] rfl rfl (by kernel_rfl) (fun _ _ _ h => h) (Or.inl ⟨by rfl, ?_⟩) ?_ ?_
      rotate_left
      · intro w'
        go_simp
        with_reducible rfl
      rotate_left
      · simp only [Act.put, List.setIfInBounds_toArray, List.set_cons_zero, List.set_cons_succ, i64_w, i32_w]
        rfl
      refine pure_ (i := 3) (N := some 37) (v := ?_) (a' := ?_) #[true, true, true, true, false, false, false, false, false, false, false, false, false] rfl rfl (by kernel_rfl) (fun _ _ _ h => h) (Or.inl ⟨by rfl, ?_⟩) ?_ ?_
      rotate_left
      · intro w'
        go_simp
        with_reducible rfl
      rotate_left
      · simp only [Act.put, List.setIfInBounds_toArray, List.set_cons_zero, List.set_cons_succ, i64_w, i32_w]
        rfl
      refine pure_ (i := 4) (N := some 38) (v := ?_) (a' := ?_) #[true, true, true, true, true, false, false, false, false, false, false, false, false] rfl rfl (by kernel_rfl) (fun _ _ _ h => h) (Or.inl ⟨by rfl, ?_⟩) ?_ ?_
      rotate_left
      · intro w'
        go_simp
        with_reducible rfl
      rotate_left
      · simp only [Act.put, List.setIfInBounds_toArray, List.set_cons_zero, List.set_cons_succ, i64_w, i32_w]
        rfl
      refine pure_ (i := 6) (N := some 40) (v := ?_) (a' := ?_) #[true, true, true, true, true, false, true, false, false, false, false, false, false] rfl rfl (by kernel_rfl) (fun _ _ _ h => h) (Or.inl ⟨by rfl, ?_⟩) ?_ ?_
      rotate_left
      · intro w'
        go_simp
        with_reducible rfl
      rotate_left
      · simp only [Act.put, List.setIfInBounds_toArray, List.set_cons_zero, List.set_cons_succ, i64_w, i32_w]
        rfl
      refine pure_ (i := 9) (N := some 43) (v := ?_) (a' := ?_) #[true, true, true, true, true, false, true, false, false, true, false, false, false] rfl rfl (by kernel_rfl) (fun _ _ _ h => h) (Or.inl ⟨by rfl, ?_⟩) ?_ ?_
      rotate_left
      · intro w'
        go_simp
        with_reducible rfl
      rotate_left
      · simp only [Act.put, List.setIfInBounds_toArray, List.set_cons_zero, List.set_cons_succ, i64_w, i32_w]
        rfl
      refine pure_ (i := 10) (N := some 44) (v := ?_) (a' := ?_) #[true, true, true, true, true, false, true, false, false, true, true, false, false] rfl rfl (by kernel_rfl) (fun _ _ _ h => h) (Or.inl ⟨by rfl, ?_⟩) ?_ ?_
      rotate_left
      · intro w'
        go_simp
        with_reducible rfl
      rotate_left
      · simp only [Act.put, List.setIfInBounds_toArray, List.set_cons_zero, List.set_cons_succ, i64_w, i32_w]
        rfl
      refine take_ (i := 5) (N := some 39) (v := ?_) (a' := ?_) #[true, true, true, true, true, true, true, false, false, true, true, false, false] rfl rfl (by kernel_rfl) (fun _ _ _ h => h) (Or.inl ⟨by rfl, ?_⟩) hHeld ?_ ?_
      rotate_left
      · intro w' s0
        go_simp
        with_reducible rfl
      rotate_left
      · simp only [Act.put, List.setIfInBounds_toArray, List.set_cons_zero, List.set_cons_succ, i64_w, i32_w]
        rfl
      refine one_ (i := 7) (N := some 41) #[true, true, true, true, true, true, true, true, false, true, true, false, false] rfl rfl (by kernel_rfl) (by decide) (fun K hK => ?_)
      refine value_ (w1 := ?_) (v := ?_) (by rfl) rfl ?_ ?_
      rotate_left 2
      · go_simp
        constructor
        · rfl
        · rfl
      refine hK.out _ _ ((blk_cell (blk_alloc K8.out _) 4).trans rfl) (fun hHeld => ?_)
      clear hK K
      refine norm_ (a' := ?_) ?_ ?_
      rotate_left
      · show Act.put _ (some 41) _ = _
        simp only [Act.put, List.setIfInBounds_toArray, List.set_cons_zero, List.set_cons_succ, i64_w, i32_w]
        rfl
      refine one_ (i := 8) (N := some 42) #[true, true, true, true, true, true, true, true, true, true, true, false, false] rfl rfl (by kernel_rfl) (by decide) (fun K hK => ?_)
      refine Kd.R_append_step intK (w0 := _) B (by rfl) (.tmp 39) (.tmp 41) 32 3 (.int .i64 0) 8 rfl Try.underlying32 info3 rfl (by decide) (by omega) (.slice Am ms.length cm) ms m [.int .i64 m] (fun _ => True) (fun _ => False) rfl rfl ?aP (fun _ hk => hk.elim) (fun _ _ => trivial) (M8.out) (Below.refl _ _) ?aS ?aL ?_
      (case aP => exact rfl)
      (case aS => exact G8.out)
      (case aL => have := HSM.out; omega)
      intro v7 w7 hR1 hB1 hg1 hat1
      rw [← HM.out] at hR1
      obtain ⟨A7, c7, rfl, hc7, hC7⟩ := Kd.R_reads hR1
      have M7 := Aside0.mk hR1
      have B7 := Aside0.mk hB1
      have K7 := Aside0.mk (blk_grown K8.out hg1 (Kd.R_ne M8.out K8.out (by decide)))
      have Y7 := Aside0.mk (Kd.R_over Y8.out M8.out (by decide) hg1)
      have L7 : Aside0 (Markeds .u32 4294967296 23 w7 B hs ms) := ⟨Markeds.grown L8.out M8.out (by decide) hg1⟩
      have R7 := Aside0.mk (blk_grown R8.out hg1 (Kd.R_ne M8.out R8.out (by decide)))
      clear hR1 hB1 hat1 hg1 hC7
      refine hK.out _ _ ((blk_cell K7.out 4).trans rfl) (fun hHeld => ?_)
      clear hK K
      refine norm_ (a' := ?_) ?_ ?_
      rotate_left
      · show Act.put _ (some 42) _ = _
        simp only [Act.put, List.setIfInBounds_toArray, List.set_cons_zero, List.set_cons_succ, i64_w, i32_w]
        rfl
      refine pure_ (i := 11) (N := some 45) (v := ?_) (a' := ?_) #[true, true, true, true, true, true, true, true, true, true, true, true, false] rfl rfl (by kernel_rfl) (fun _ _ _ h => h) (Or.inl ⟨by rfl, ?_⟩) ?_ ?_
      rotate_left
      · intro w'
        go_simp
        with_reducible rfl
      rotate_left
      · simp only [Act.put, List.setIfInBounds_toArray, List.set_cons_zero, List.set_cons_succ, i64_w, i32_w]
        rfl
      refine last_ (i := 12) (N := none) #[true, true, true, true, true, true, true, true, true, true, true, true, true] rfl rfl (by kernel_rfl) (by decide) (fun K hK => ?_)
      have f1 := blk_frozen K7.out 4
      refine skip_ (w1 := ?_) (by rfl) rfl ?_ ?_
      rotate_left
      · go_simp
        rfl
      refine hK.out _ _ ?_
      clear hK K
      refine done_ (by kernel_rfl) ?_
      try go_wp2
      go_end0
      rw [← HH.out, ← HM.out]
      refine ⟨rfl, ⟨_, _, (blk_set K7.out 4 _).trans rfl, Kd.R_set Y7.out K7.out (by decide) 4 _, Kd.R_set M7.out K7.out (by decide) 4 _, ?_⟩, (T8.out.trans (.of_below B7.out)).set 4 _⟩
      have hmk : Marked .u32 4294967296 23 w7 B (some ⟨r, 0, none⟩, c, c) m := .inr ⟨r, cur', rfl, hrB, R7.out, by have := HZ.out; have := HCZ.out; simp only; omega, hcm, fun j hj => HI.out j hj⟩
      have hsn := Markeds.snoc L7.out hmk
      rw [← HH.out, ← HM.out] at hsn
      exact hsn.set K7.out (by decide) 4 _
end Go.Proofs.Ytpmmnjpimnapfaa.A
