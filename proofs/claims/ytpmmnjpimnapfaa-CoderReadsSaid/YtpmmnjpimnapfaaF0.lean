import Derived.Test.YtpmmnjpimnapfaaC2
set_option linter.unusedVariables false
set_option linter.unusedSimpArgs false
namespace Go.Proofs.Ytpmmnjpimnapfaa.A
open Go.RowKit Go.Proofs.YtpmmnjpimnapfaaW.PrintWords Go.Proofs.YtpmmnjpimnapfaaW.PrintLast Go.Proofs.YtpmmnjpimnapfaaW.PrintMore

/-- a slice's header -/
abbrev Hd := Option Addr × Nat × Nat
def Hd.v (h : Hd) : Value := .slice h.1 h.2.1 h.2.2
def hdr : Kd Hd := Kd.scalar (fun h : Hd => h.v) (fun _ => rfl)
theorem info26 : (Try.prog.info? 26).map (fun i => (i.zero, i.size, i.bytes)) = some (some (.slice none 0 0), 1, 24) := by kernel_rfl
theorem info40 : (Try.prog.info? 40).map (fun i => (i.zero, i.size, i.bytes)) = some (some (.slice none 0 0), 1, 24) := by kernel_rfl
theorem info3 : (Try.prog.info? 3).map (fun i => (i.zero, i.size, i.bytes)) = some (some (.int .i64 0), 1, 8) := by kernel_rfl
theorem hdr_new {w : World} {g : Nat} {cells : Array Value} {e : TypeId} (hs : List Hd) (hb : w.heap[g]? = some (.cells cells e (0, 0))) (hc : cells = (hs.map Hd.v).toArray) (hl : hs.length ≤ 9223372036854775807) : hdr.C w (some ⟨g, 0, none⟩) hs.length hs := by
  refine Kd.C_of_reads (d := (none, 0, 0)) ⟨rfl, hl, fun hp => ⟨_, rfl, fun j hj => ?_⟩⟩
  rw [add_plain, blk_cell hb j, hc]
  simp [List.getElem?_eq_getElem hj]
/-- v reads as the headers hs -/
def Hs (w : World) (v : Value) (hs : List Hd) : Prop := ∃ A c, v = .slice A hs.length c ∧ hdr.C w A hs.length hs
theorem Hs.below {w w1 : World} {v : Value} {hs : List Hd} (h : Hs w v hs) (hb : Below w.heap.size w w1) : Hs w1 v hs := by obtain ⟨A, c, h1, h2⟩ := h; exact ⟨A, c, h1, Kd.C_below h2 hb⟩
theorem Hs.of_R {e : TypeId} {w : World} {B : Nat} {ok : Nat → Prop} {v : Value} {hs : List Hd} (h : Kd.R hdr e w B ok v hs) : Hs w v hs := by
  obtain ⟨A, c, h1, h2, h3⟩ := Kd.R_reads h
  exact ⟨A, c, h1, h3⟩
theorem Hs.nil (w : World) : Hs w (.slice none 0 0) [] := ⟨none, 0, rfl, Kd.C_nil _ _⟩
theorem Hs.len {w : World} {v : Value} {hs : List Hd} (h : Hs w v hs) : ∃ A c, v = .slice A hs.length c := by obtain ⟨A, c, h1, _⟩ := h; exact ⟨A, c, h1⟩
theorem Hs.at_ {w : World} {v : Value} {hs : List Hd} (h : Hs w v hs) {i : Nat} (hi : i < hs.length) : ∃ ad c, v = .slice (some ad) hs.length c ∧ w.cell? (ad.add i) = some (hs[i]).v := by
  obtain ⟨A, c, h1, h2⟩ := h
  obtain ⟨ad, cs, hA, hl, hK, hc⟩ := Kd.C_get h2 (none, 0, 0) i (by omega) (by omega)
  subst hA
  refine ⟨ad, c, h1, ?_⟩
  have hK' : cs = [((hs[i]).v)] := by
    have e : hs.getD ((i : Int)).toNat (none, 0, 0) = hs[i] := by simp [List.getElem?_eq_getElem hi]
    rw [e] at hK
    exact hK
  have := hc 0 _ (by rw [hK']; rfl)
  simpa [hdr, Kd.scalar] using this
theorem mark_calls (m i : Int) (w : World) : Calls Try.prog 38 #[.int .i64 m, .int .i64 i] w fun e w' => e = .returned (.int .i64 (wrap64 ((wrap64 (wrap64 (wrap64 (m * 31) + wrap64 (i * 7)) + 1)).tmod 250 + 1))) ∧ w = w' := by
  go_enter Try.func38, Try.ntmps38
  go_wp2
  go_ret
  exact ⟨rfl, rfl⟩

theorem grown_below {w W W' : World} {g : Nat} (h : w.grownBy W (some g)) (k : Below w.heap.size W W') : w.grownBy W' (some g) := ⟨k.os.trans h.os, k.tape.trans h.tape, k.output.trans h.output, Nat.le_trans h.size k.size, fun i hi hne => (k.block i hi).trans (h.block i hi hne)⟩
theorem grown_of_below {w W : World} {g : Nat} (k : Below w.heap.size w W) : w.grownBy W (some g) := ⟨k.os, k.tape, k.output, k.size, fun i hi hne => k.block i hi⟩
theorem rows_of {k : IntKind} {e : TypeId} {w : World} {B r cap : Nat} {xs : List Nat} {ok : Nat → Prop} (h : Kd.R (nat k) e w B ok (.slice (some ⟨r, 0, none⟩) xs.length cap) xs) : (nat k).C w (some ⟨r, 0, none⟩) xs.length xs := by
  obtain ⟨A, c, h1, h2, h3⟩ := Kd.R_reads h
  injection h1 with a b c; subst a; exact h3

theorem C_take {k : IntKind} {w : World} {A : Option Addr} {ys : List Nat} {n : Nat} (h : (nat k).C w A ys.length ys) (hn : n ≤ ys.length) : (nat k).C w A n (ys.take n) := by
  refine Kd.C_of_reads (d := 0) ⟨by rw [List.length_take]; omega, by have := h.2.1; omega, fun hp => ?_⟩
  obtain ⟨ad, e, _⟩ := C_nat h 0 (by omega)
  refine ⟨ad, e, fun j hj => ?_⟩
  obtain ⟨ad', e', hc⟩ := C_nat h j (by omega)
  rw [e] at e'; injection e' with e'; subst e'
  rw [hc]
  have : gt ys j = (ys.take n).getD j 0 := by unfold gt; rw [List.getD_eq_getElem?_getD, List.getD_eq_getElem?_getD, List.getElem?_take, if_pos hj]
  rw [this]
/-- what has been lent: each list, and what it was -/
def Same (k : IntKind) (w : World) (h h' : Hd) : Prop := ∃ xs : List Nat, h.2.1 = xs.length ∧ h'.2.1 = xs.length ∧ (nat k).C w h.1 xs.length xs ∧ (nat k).C w h'.1 xs.length xs
theorem Same.below {k : IntKind} {w w1 : World} {h h' : Hd} (H : Same k w h h') (hb : Below w.heap.size w w1) : Same k w1 h h' := by
  obtain ⟨xs, h1, h2, h3, h4⟩ := H
  exact ⟨xs, h1, h2, Kd.C_below h3 hb, Kd.C_below h4 hb⟩
def Sames (k : IntKind) (w : World) (hs ws : List Hd) : Prop := hs.length = ws.length ∧ ∀ i (h1 : i < hs.length) (h2 : i < ws.length), Same k w hs[i] ws[i]
theorem Sames.nil (k : IntKind) (w : World) : Sames k w [] [] := ⟨rfl, fun i h => by simp at h⟩
theorem Sames.below {k : IntKind} {w w1 : World} {hs ws : List Hd} (H : Sames k w hs ws) (hb : Below w.heap.size w w1) : Sames k w1 hs ws := ⟨H.1, fun i h1 h2 => (H.2 i h1 h2).below hb⟩
theorem Sames.one {k : IntKind} {w : World} {h h' : Hd} (H : Same k w h h') : Sames k w [h] [h'] := ⟨rfl, fun i h1 h2 => by
  have : i = 0 := by simpa using h1
  subst this; exact H⟩
theorem R_from {α : Type} {d : Kd α} {e base : Nat} {w w1 : World} {ok : Nat → Prop} {v : Value} {xs : List α} (h : d.R e w base ok v xs) (hk : ∀ k, base ≤ k → k < w.heap.size → w1.heap[k]? = w.heap[k]?) : d.R e w1 base ok v xs := Kd.R_mono (Kd.R_move (Kd.R_bound h) (fun k hk' => hk k hk'.2.1 hk'.2.2.1)) (fun k hk' => hk'.1)
def Room (w : World) (g : Nat) : Prop := ∃ v0 v1 v2 v3 hs ws hb wb, w.heap[g]? = some (.cells #[v0, v1, v2, v3, .slice none 0 0, .slice none 0 0, .slice none 0 0, .slice none 0 0] 38 (0, 0)) ∧ Hs w v0 hs ∧ Hs w v1 ws ∧ Hs w v2 hb ∧ Hs w v3 wb ∧ Sames .u32 w hs ws ∧ Sames .u8 w hb wb
/-- it stays a room wherever the blocks from B on, and its own, stay -/
def RoomK (W : World) (g B : Nat) : Prop := ∀ w', (∀ k, B ≤ k → k < W.heap.size → w'.heap[k]? = W.heap[k]?) → w'.heap[g]? = W.heap[g]? → Room w' g
theorem Room.below {w w1 : World} {g : Nat} (h : Room w g) (hb : Below w.heap.size w w1) : Room w1 g := by
  obtain ⟨v0, v1, v2, v3, hs, ws, hb', wb, h1, h2, h3, h4, h5, h6, h7⟩ := h
  exact ⟨v0, v1, v2, v3, hs, ws, hb', wb, blk_below h1 hb, h2.below hb, h3.below hb, h4.below hb, h5.below hb, h6.below hb, h7.below hb⟩

set_option maxHeartbeats 8000000 in
set_option maxRecDepth 100000 in
theorem roomSamples (g : Nat) (A : Option Addr) (cap : Nat) (l : List Nat) (w : World) (hg : w.heap[g]? = some (.cells #[.slice none 0 0, .slice none 0 0, .slice none 0 0, .slice none 0 0, .slice none 0 0, .slice none 0 0, .slice none 0 0, .slice none 0 0] 38 (0, 0))) (hC : (nat .u32).C w A l.length l) (hcap : l.length ≤ cap) (hb : l.length * 4 ≤ 140737488351232) :
    Calls Try.prog 15 #[.pointer (some ⟨g, 0, none⟩), .slice A l.length cap] w fun e w' => ∃ r c cells, e = .returned (.slice (some ⟨r, 0, none⟩) l.length c) ∧ l.length ≤ c ∧ w.heap.size ≤ r ∧ (nat .u32).C w' (some ⟨r, 0, none⟩) l.length l ∧ w'.heap[r]? = some (.cells cells 23 (0, 0)) ∧ RoomK w' g w.heap.size ∧ w.grownBy w' (some g) := by
  have HG := Aside0.mk hg
  have HC := Aside0.mk hC
  clear hg hC
  go_enter Try.func15, Try.ntmps15
  go_wp2_with (first | ((with_reducible refine gate_dst (N := 10) rfl ?_); refine Kd.R_make (nat .u32) (w0 := w) w.heap.size 23 rfl (N := 10) rfl 26 (.tmp 9) (.tmp 9) rfl ((l.length : Int) + 5) rfl rfl Try.underlying26 (.int .u32 0) 4 info23 rfl (by decide) (by omega) 0 (ok := fun _ => True) (okp := fun _ => False) rfl (fun _ h => h.elim) trivial (by omega) (by omega) (Below.refl _ _) (Nat.le_refl _) ?_; intro v1 w1 hR1 hB1 hg1 hat1; have R1 := Aside0.mk hR1; have B1 := Aside0.mk hB1; clear hR1 hB1 hg1 hat1) | ((with_reducible refine gate_builtin (b := .copy) (xs := #[.tmp 11, .tmp 12]) rfl ?_); refine Kd.R_copy (enc := fun x : Nat => Value.int .u32 x) (h1 := fun _ => rfl) 0 (w0 := w) w.heap.size rfl (.tmp 11) (.tmp 12) 26 26 23 rfl Try.underlying26 (by kernel_rfl) v1 (List.replicate ((l.length : Int) + 5).toNat 0) l A l.length cap (fun _ => True) rfl rfl R1.out (Kd.C_below HC.out B1.out) B1.out B1.out.size ?_; intro w2 hR1 hB1 hg1; have R2 := Aside0.mk hR1; have B2 := Aside0.mk hB1; clear hR1 hB1 hg1))
  obtain ⟨ys0, hy0⟩ : ∃ ys0 : List Nat, ys0 = l.take (min l.length (List.replicate ((l.length : Int) + 5).toNat 0).length) ++ (List.replicate ((l.length : Int) + 5).toNat 0).drop (min l.length (List.replicate ((l.length : Int) + 5).toNat 0).length) := ⟨_, rfl⟩
  have hn5 : ((l.length : Int) + 5).toNat = l.length + 5 := by omega
  have hmin : min l.length (l.length + 5) = l.length := by omega
  have h1 : ys0.length = l.length + 5 := by rw [hy0, hn5, List.length_replicate, hmin]; simp
  have h2 : ys0.take l.length = l := by rw [hy0, hn5, List.length_replicate, hmin]; simp
  have R3 : Aside0 (Kd.R (nat .u32) 23 w2 w.heap.size (fun _ => True) v1 ys0) := ⟨by rw [hy0]; exact R2.out⟩
  obtain ⟨r, cap0, hv, hr, hrl, cells, hrb⟩ := Kd.R_form R3.out (by omega)
  rw [h1] at hv
  subst hv
  have HRB := Aside0.mk hr
  have H2 := Aside0.mk h2
  have hcap0 : Aside0 (l.length + 5 ≤ cap0) := ⟨by obtain ⟨A', c', e1, e2, _⟩ := Kd.R_reads R3.out; injection e1 with _ _ e3; omega⟩
  clear hy0 hn5 hmin R2 h2 hrl hrb hr
  go_loopw [6] (fun v wr => ∃ (j : Nat) (ys : List Nat), l.length ≤ j ∧ j ≤ l.length + 5 ∧ v = .int .i64 j ∧ ys.length = l.length + 5 ∧ Aside0 (ys.take l.length = l) ∧ Aside0 (Kd.R (nat .u32) 23 wr w.heap.size (fun _ => True) (.slice (some ⟨r, 0, none⟩) (l.length + 5) cap0) ys) ∧ Aside0 (Below w.heap.size w wr)) (fun v _ => l.length + 5 - (intOf v).toNat)
  case atStart => exact ⟨l.length, ys0, by omega, by omega, rfl, h1, H2, R3, B2⟩
  case round =>
    obtain ⟨j, ys, hj0, hj, rfl, hyl, HT, R4, B4⟩ := hrel
    by_cases hlt : j < l.length + 5
    · have x0 := (Kd.R_cell (d := 0) (by have h := R4.out; rw [← hyl] at h; exact h) (j : Int) (by omega) (by omega)).1
      obtain ⟨r', cap', hv, hr1, hr2, cells', hrb⟩ := Kd.R_form R4.out (by omega)
      injection hv with hv _ _
      injection hv with hv
      injection hv with hv _ _
      subst hv
      rw [Int.toNat_natCast] at x0
      have x1 := blk_frozen hrb j
      obtain ⟨x, hx⟩ : ∃ x : Nat, x = (2141192202 + j) % 4294967296 := ⟨_, rfl⟩
      have hw1 : IntKind.u32.wrap (2141192202 + (j : Int)) = (x : Int) := by simp only [IntKind.wrap_u32]; omega
      have hw2 : ((2141192202 : Int) + (j : Int)) % 4294967296 = (x : Int) := by omega
      have HYL := Aside0.mk hyl
      have HRB2 := Aside0.mk hrb
      clear hx hrb hyl
      go_wp2
      go_roundw
      case measure => simp [intOf]; omega
      case rel =>
        have hp := Kd.R_putn R4.out (j : Int) x
        rw [Int.toNat_natCast] at hp
        exact ⟨j + 1, ys.set j x, by omega, by omega, by go_num, by rw [List.length_set]; exact HYL.out, ⟨by rw [List.take_set, List.set_eq_of_length_le (by simp; omega)]; exact HT.out⟩, ⟨hp⟩, ⟨B4.out.setCell (p := ⟨r, j, none⟩) HRB.out _⟩⟩
    · obtain rfl : j = l.length + 5 := by omega
      have R5 : Aside0 (Kd.R (nat .u32) 23 wr w.heap.size (fun _ => True) (.slice (some ⟨r, 0, none⟩) ys.length cap0) ys) := ⟨by have h := R4.out; rw [← hyl] at h; exact h⟩
      have HG4 := Aside0.mk (blk_below HG.out B4.out)
      have hg0 := (blk_cell HG4.out 0).trans rfl
      have fg0 := blk_frozen HG4.out 0
      go_wp2_with ((with_reducible refine gate_builtin (b := .append) (xs := #[.tmp 32, .tmp 34]) rfl ?_); at_builtin; refine Kd.R_append_row Hd.v (none, 0, 0) (h1 := fun _ => rfl) (w0 := w) w.heap.size rfl (.tmp 32) (.tmp 34) 28 26 (.slice none 0 0) 24 rfl Try.underlying28 info26 rfl (by omega) (.slice none 0 0) [] [(some ⟨r, 0, none⟩, l.length + 5, cap0)] _ 1 1 (fun _ => True) rfl rfl (fun _ _ => trivial) (Kd.R_nil _ _ _ _ _) (hdr_new [(some ⟨r, 0, none⟩, l.length + 5, cap0)] (blk_new _ _) rfl (by simp)) (B4.out.alloc B4.out.size _) (B4.out.alloc B4.out.size _).size ?aL ?_; (case aL => simp); intro v5 w5 hR1 hB1 hg1 hat1; rw [List.nil_append] at hR1; obtain ⟨A5, c5, rfl, hc5, hC5⟩ := Kd.R_reads hR1; have Y5 := Aside0.mk hR1; have B5 := Aside0.mk hB1; have R6 := Aside0.mk (Kd.R_mono (Kd.R_grown (Kd.R_below R5.out ((Below.refl _ _).alloc (Nat.le_refl _) _)) hg1 (fun k _ h => by cases h)) (fun _ _ => trivial)); have HG5 := Aside0.mk (blk_grown (blk_alloc HG4.out _) hg1 (by intro h; cases h)); clear hR1 hB1 hg1 hat1 hC5; have fg5 := blk_frozen HG5.out 0; have hg5 := (blk_cell HG5.out 0).trans rfl)
      have KW : Aside0 ((w5.setCell ⟨g, 0, none⟩ (.slice A5 1 c5)).heap[g]? = some (.cells #[.slice A5 1 c5, .slice none 0 0, .slice none 0 0, .slice none 0 0, .slice none 0 0, .slice none 0 0, .slice none 0 0, .slice none 0 0] 38 (0, 0))) := ⟨(blk_set HG5.out 0 (.slice A5 1 c5)).trans rfl⟩
      have RW := Aside0.mk (Kd.R_set R6.out HG5.out (by decide) 0 (.slice A5 1 c5))
      have YW := Aside0.mk (Kd.R_set Y5.out HG5.out (by decide) 0 (.slice A5 1 c5))
      have GW := Aside0.mk (gset (grown_of_below (g := g) B5.out) 0 (.slice A5 1 c5))
      obtain ⟨W, hW⟩ : ∃ W, W = w5.setCell ⟨g, 0, none⟩ (.slice A5 1 c5) := ⟨_, rfl⟩
      rw [← hW] at KW RW YW GW
      rw [← hW]
      have K8 := Aside0.mk (blk_drew KW.out)
      have R8 := Aside0.mk (Kd.R_drew RW.out)
      have Y8 := Aside0.mk (Kd.R_drew YW.out)
      have G8 := Aside0.mk (gdrewN GW.out 1)
      have HYL := Aside0.mk hyl
      clear hW hyl
      refine start_ (n := 12) (S := fun w' => w'.cell? ⟨g, 1, none⟩ = some (.slice none 0 0)) (ds := [11]) #[false, false, false, false, false, false, false, false, false, false, false, false] (by kernel_rfl) rfl rfl ((blk_cell K8.out 1).trans rfl) (fun hHeld => ?_)
      refine pure_ (i := 0) (N := some 38) (v := ?_) (a' := ?_) #[true, false, false, false, false, false, false, false, false, false, false, false] rfl rfl (by kernel_rfl) (fun _ _ _ h => h) (Or.inl ⟨by rfl, ?_⟩) ?_ ?_
      rotate_left
      · intro w'
        go_simp
        with_reducible rfl
      rotate_left
      · simp only [Act.put, List.setIfInBounds_toArray, List.set_cons_zero, List.set_cons_succ, i64_w, i32_w]
        rfl
      refine pure_ (i := 1) (N := some 39) (v := ?_) (a' := ?_) #[true, true, false, false, false, false, false, false, false, false, false, false] rfl rfl (by kernel_rfl) (fun _ _ _ h => h) (Or.inl ⟨by rfl, ?_⟩) ?_ ?_
      rotate_left
      · intro w'
        go_simp
        with_reducible rfl
      rotate_left
      · simp only [Act.put, List.setIfInBounds_toArray, List.set_cons_zero, List.set_cons_succ, i64_w, i32_w]
        rfl
      refine pure_ (i := 2) (N := some 40) (v := ?_) (a' := ?_) #[true, true, true, false, false, false, false, false, false, false, false, false] rfl rfl (by kernel_rfl) (fun _ _ _ h => h) (Or.inl ⟨by rfl, ?_⟩) ?_ ?_
      rotate_left
      · intro w'
        go_simp
        with_reducible rfl
      rotate_left
      · simp only [Act.put, List.setIfInBounds_toArray, List.set_cons_zero, List.set_cons_succ, i64_w, i32_w]
        rfl
      refine pure_ (i := 3) (N := some 41) (v := ?_) (a' := ?_) #[true, true, true, true, false, false, false, false, false, false, false, false] rfl rfl (by kernel_rfl) (fun _ _ _ h => h) (Or.inl ⟨by rfl, ?_⟩) ?_ ?_
      rotate_left
      · intro w'
        go_simp
        with_reducible rfl
      rotate_left
      · simp only [Act.put, List.setIfInBounds_toArray, List.set_cons_zero, List.set_cons_succ, i64_w, i32_w]
        rfl
      refine pure_ (i := 5) (N := some 43) (v := ?_) (a' := ?_) #[true, true, true, true, false, true, false, false, false, false, false, false] rfl rfl (by kernel_rfl) (fun _ _ _ h => h) (Or.inl ⟨by rfl, ?_⟩) ?_ ?_
      rotate_left
      · intro w'
        go_simp
        with_reducible rfl
      rotate_left
      · simp only [Act.put, List.setIfInBounds_toArray, List.set_cons_zero, List.set_cons_succ, i64_w, i32_w]
        rfl
      refine take_ (i := 4) (N := some 42) (v := ?_) (a' := ?_) #[true, true, true, true, true, true, false, false, false, false, false, false] rfl rfl (by kernel_rfl) (fun _ _ _ h => h) (Or.inl ⟨by rfl, ?_⟩) hHeld ?_ ?_
      rotate_left
      · intro w' s0
        go_simp
        with_reducible rfl
      rotate_left
      · simp only [Act.put, List.setIfInBounds_toArray, List.set_cons_zero, List.set_cons_succ, i64_w, i32_w]
        rfl
      refine one_ (i := 6) (N := some 44) #[true, true, true, true, true, true, true, false, false, false, false, false] rfl rfl (by kernel_rfl) (by decide) (fun K hK => ?_)
      refine Kd.R_append_rows_step (nat .u32) (Rr := (nat .u32).K W.drew) (w0 := _) w.heap.size (by rfl) (.const (.slice none 0 0)) (.tmp 43) 26 23 (.int .u32 0) 4 rfl Try.underlying26 info23 rfl (by decide) (by omega) (.slice none 0 0) [] ys (some ⟨r, 0, none⟩) (l.length + 5) cap0 (fun _ => True) (fun _ => False) rfl rfl (Kd.R_nil _ _ _ _ _) ?aR (fun x cs h => h) (fun _ h => h.elim) (fun _ _ => trivial) (Below.refl _ _) ?aS ?aL ?_
      (case aR => have h := rows_of R8.out; rw [HYL.out] at h; exact h)
      (case aS => exact G8.out.size)
      (case aL => simp; omega)
      intro v6 w6 hR1 hB1 hg1 hat1
      rw [List.nil_append] at hR1
      obtain ⟨A6, c6, rfl, hc6, hC6⟩ := Kd.R_reads hR1
      have R6 := Aside0.mk hR1
      have B6 := Aside0.mk hB1
      have K6 := Aside0.mk (blk_grown K8.out hg1 (by intro h; cases h))
      have Y6 := Aside0.mk (Kd.R_mono (Kd.R_grown Y8.out hg1 (fun k _ h => by cases h)) (fun _ _ => trivial))
      have Z6 := Aside0.mk (Kd.R_mono (Kd.R_grown R8.out hg1 (fun k _ h => by cases h)) (fun _ _ => trivial))
      clear hR1 hB1 hat1 hg1 hC6
      refine hK.out _ _ ((blk_cell K6.out 1).trans rfl) (fun hHeld => ?_)
      clear hK K
      refine norm_ (a' := ?_) ?_ ?_
      rotate_left
      · show Act.put _ (some 44) _ = _
        simp only [Act.put, List.setIfInBounds_toArray, List.set_cons_zero, List.set_cons_succ, i64_w, i32_w]
        rfl
      refine one_ (i := 7) (N := some 45) #[true, true, true, true, true, true, true, true, false, false, false, false] rfl rfl (by kernel_rfl) (by decide) (fun K hK => ?_)
      refine value_ (w1 := ?_) (v := ?_) (by rfl) rfl ?_ ?_
      rotate_left 2
      · go_simp
        constructor
        · rfl
        · rfl
      refine hK.out _ _ ((blk_cell (blk_alloc K6.out _) 1).trans rfl) (fun hHeld => ?_)
      clear hK K
      refine norm_ (a' := ?_) ?_ ?_
      rotate_left
      · show Act.put _ (some 45) _ = _
        simp only [Act.put, List.setIfInBounds_toArray, List.set_cons_zero, List.set_cons_succ, i64_w, i32_w]
        rfl
      refine one_ (i := 8) (N := some 46) #[true, true, true, true, true, true, true, true, true, false, false, false] rfl rfl (by kernel_rfl) (by decide) (fun K hK => ?_)
      refine Kd.R_append_step hdr (w0 := _) w.heap.size (by rfl) (.tmp 42) (.tmp 45) 28 26 (.slice none 0 0) 24 rfl Try.underlying28 info26 rfl (by decide) (by omega) (.slice none 0 0) [] (A6, ys.length, c6) [.slice A6 ys.length c6] (fun _ => True) (fun _ => False) rfl rfl ?aP (fun _ hk => hk.elim) (fun _ _ => trivial) (Kd.R_nil _ _ _ _ _) B6.out ?aS ?aL ?_
      (case aP => exact rfl)
      (case aS => exact Nat.le_trans G8.out.size B6.out.size)
      (case aL => simp)
      intro v7 w7 hR1 hB1 hg1 hat1
      rw [List.nil_append] at hR1
      have R7 := Aside0.mk hR1
      have B7 := Aside0.mk hB1
      have K7 := Aside0.mk (blk_grown K6.out hg1 (by intro h; cases h))
      have Y7 := Aside0.mk (Kd.R_mono (Kd.R_grown Y6.out hg1 (fun k _ h => by cases h)) (fun _ _ => trivial))
      have X7 := Aside0.mk (Kd.R_mono (Kd.R_grown R6.out hg1 (fun k _ h => by cases h)) (fun _ _ => trivial))
      have Z7 := Aside0.mk (Kd.R_mono (Kd.R_grown Z6.out hg1 (fun k _ h => by cases h)) (fun _ _ => trivial))
      obtain ⟨A7, c7, rfl, hc7, hC7⟩ := Kd.R_reads hR1
      clear hR1 hB1 hat1 hg1 hC7
      refine hK.out _ _ ((blk_cell K7.out 1).trans rfl) (fun hHeld => ?_)
      clear hK K
      refine norm_ (a' := ?_) ?_ ?_
      rotate_left
      · show Act.put _ (some 46) _ = _
        simp only [Act.put, List.setIfInBounds_toArray, List.set_cons_zero, List.set_cons_succ, i64_w, i32_w]
        rfl
      refine pure_ (i := 9) (N := some 47) (v := ?_) (a' := ?_) #[true, true, true, true, true, true, true, true, true, true, false, false] rfl rfl (by kernel_rfl) (fun _ _ _ h => h) (Or.inl ⟨by rfl, ?_⟩) ?_ ?_
      rotate_left
      · intro w'
        go_simp
        with_reducible rfl
      rotate_left
      · simp only [Act.put, List.setIfInBounds_toArray, List.set_cons_zero, List.set_cons_succ, i64_w, i32_w]
        rfl
      refine pure_ (i := 10) (N := some 48) (v := ?_) (a' := ?_) #[true, true, true, true, true, true, true, true, true, true, true, false] rfl rfl (by kernel_rfl) (fun _ _ _ h => h) (Or.inl ⟨by rfl, ?_⟩) ?_ ?_
      rotate_left
      · intro w'
        go_simp
        with_reducible rfl
      rotate_left
      · simp only [Act.put, List.setIfInBounds_toArray, List.set_cons_zero, List.set_cons_succ, i64_w, i32_w]
        rfl
      refine last_ (i := 11) (N := none) #[true, true, true, true, true, true, true, true, true, true, true, true] rfl rfl (by kernel_rfl) (by decide) (fun K hK => ?_)
      have f1 := blk_frozen K7.out 1
      refine skip_ (w1 := ?_) (by rfl) rfl ?_ ?_
      rotate_left
      · go_simp
        rfl
      refine hK.out _ _ ?_
      clear hK K
      refine done_ (by kernel_rfl) ?_
      have hcl : l.length ≤ cap0 := by have := hcap0.out; omega
      try go_wp2
      go_ret
      have KF : (w7.setCell ⟨g, 1, none⟩ (.slice A7 1 c7)).heap[g]? = some (.cells #[.slice A5 1 c5, .slice A7 1 c7, .slice none 0 0, .slice none 0 0, .slice none 0 0, .slice none 0 0, .slice none 0 0, .slice none 0 0] 38 (0, 0)) := (blk_set K7.out 1 (.slice A7 1 c7)).trans rfl
      have ZF := Kd.R_set Z7.out K7.out (by decide) 1 (.slice A7 1 c7)
      have XF := Kd.R_set X7.out K7.out (by decide) 1 (.slice A7 1 c7)
      have YF := Kd.R_set Y7.out K7.out (by decide) 1 (.slice A7 1 c7)
      have RF := Kd.R_set R7.out K7.out (by decide) 1 (.slice A7 1 c7)
      have GF := gset (grown_below G8.out B7.out) 1 (.slice A7 1 c7)
      obtain ⟨r', cap', hv, _, _, cells', hrb⟩ := Kd.R_form ZF (by have := HYL.out; omega)
      injection hv with hv _ _
      injection hv with hv
      injection hv with hv _ _
      subst hv
      have hC1 := rows_of ZF
      have hC2 := C_take hC1 (n := l.length) (by have := HYL.out; omega)
      rw [HT.out] at hC2
      refine ⟨r, cap0, cells', rfl, by have := hcap0.out; omega, HRB.out, hC2, hrb, ?_, GF⟩
      clear hC1 hC2 hrb
      intro w' hk hgw
      have KF := hgw.trans KF
      have ZF := R_from ZF hk
      have XF := R_from XF hk
      have YF := R_from YF hk
      have RF := R_from RF hk
      have hC1 := rows_of ZF
      obtain ⟨A6', c6', e6, _, hC6⟩ := Kd.R_reads XF
      injection e6 with e6 _ _
      subst e6
      exact ⟨_, _, _, _, [(some ⟨r, 0, none⟩, l.length + 5, cap0)], [(A6, ys.length, c6)], [], [], KF, Hs.of_R YF, Hs.of_R RF, Hs.nil _, Hs.nil _, Sames.one ⟨ys, HYL.out.symm, rfl, hC1, hC6⟩, Sames.nil _ _⟩

set_option maxHeartbeats 8000000 in
set_option maxRecDepth 100000 in
theorem roomBytes (g : Nat) (A : Option Addr) (cap : Nat) (l : List Nat) (w : World) (hg : w.heap[g]? = some (.cells #[.slice none 0 0, .slice none 0 0, .slice none 0 0, .slice none 0 0, .slice none 0 0, .slice none 0 0, .slice none 0 0, .slice none 0 0] 38 (0, 0))) (hC : (nat .u8).C w A l.length l) (hcap : l.length ≤ cap) (hb : l.length * 1 ≤ 140737488351232) :
    Calls Try.prog 25 #[.pointer (some ⟨g, 0, none⟩), .slice A l.length cap] w fun e w' => ∃ r c cells, e = .returned (.slice (some ⟨r, 0, none⟩) l.length c) ∧ l.length ≤ c ∧ w.heap.size ≤ r ∧ (nat .u8).C w' (some ⟨r, 0, none⟩) l.length l ∧ w'.heap[r]? = some (.cells cells 5 (0, 0)) ∧ RoomK w' g w.heap.size ∧ w.grownBy w' (some g) := by
  have HG := Aside0.mk hg
  have HC := Aside0.mk hC
  clear hg hC
  go_enter Try.func25, Try.ntmps25
  go_wp2_with (first | ((with_reducible refine gate_dst (N := 10) rfl ?_); refine Kd.R_make (nat .u8) (w0 := w) w.heap.size 5 rfl (N := 10) rfl 40 (.tmp 9) (.tmp 9) rfl ((l.length : Int) + 5) rfl rfl Try.underlying40 (.int .u8 0) 1 info5 rfl (by decide) (by omega) 0 (ok := fun _ => True) (okp := fun _ => False) rfl (fun _ h => h.elim) trivial (by omega) (by omega) (Below.refl _ _) (Nat.le_refl _) ?_; intro v1 w1 hR1 hB1 hg1 hat1; have R1 := Aside0.mk hR1; have B1 := Aside0.mk hB1; clear hR1 hB1 hg1 hat1) | ((with_reducible refine gate_builtin (b := .copy) (xs := #[.tmp 11, .tmp 12]) rfl ?_); refine Kd.R_copy (enc := fun x : Nat => Value.int .u8 x) (h1 := fun _ => rfl) 0 (w0 := w) w.heap.size rfl (.tmp 11) (.tmp 12) 40 40 5 rfl Try.underlying40 (by kernel_rfl) v1 (List.replicate ((l.length : Int) + 5).toNat 0) l A l.length cap (fun _ => True) rfl rfl R1.out (Kd.C_below HC.out B1.out) B1.out B1.out.size ?_; intro w2 hR1 hB1 hg1; have R2 := Aside0.mk hR1; have B2 := Aside0.mk hB1; clear hR1 hB1 hg1))
  obtain ⟨ys0, hy0⟩ : ∃ ys0 : List Nat, ys0 = l.take (min l.length (List.replicate ((l.length : Int) + 5).toNat 0).length) ++ (List.replicate ((l.length : Int) + 5).toNat 0).drop (min l.length (List.replicate ((l.length : Int) + 5).toNat 0).length) := ⟨_, rfl⟩
  have hn5 : ((l.length : Int) + 5).toNat = l.length + 5 := by omega
  have hmin : min l.length (l.length + 5) = l.length := by omega
  have h1 : ys0.length = l.length + 5 := by rw [hy0, hn5, List.length_replicate, hmin]; simp
  have h2 : ys0.take l.length = l := by rw [hy0, hn5, List.length_replicate, hmin]; simp
  have R3 : Aside0 (Kd.R (nat .u8) 5 w2 w.heap.size (fun _ => True) v1 ys0) := ⟨by rw [hy0]; exact R2.out⟩
  obtain ⟨r, cap0, hv, hr, hrl, cells, hrb⟩ := Kd.R_form R3.out (by omega)
  rw [h1] at hv
  subst hv
  have HRB := Aside0.mk hr
  have H2 := Aside0.mk h2
  have hcap0 : Aside0 (l.length + 5 ≤ cap0) := ⟨by obtain ⟨A', c', e1, e2, _⟩ := Kd.R_reads R3.out; injection e1 with _ _ e3; omega⟩
  clear hy0 hn5 hmin R2 h2 hrl hrb hr
  go_loopw [6] (fun v wr => ∃ (j : Nat) (ys : List Nat), l.length ≤ j ∧ j ≤ l.length + 5 ∧ v = .int .i64 j ∧ ys.length = l.length + 5 ∧ Aside0 (ys.take l.length = l) ∧ Aside0 (Kd.R (nat .u8) 5 wr w.heap.size (fun _ => True) (.slice (some ⟨r, 0, none⟩) (l.length + 5) cap0) ys) ∧ Aside0 (Below w.heap.size w wr)) (fun v _ => l.length + 5 - (intOf v).toNat)
  case atStart => exact ⟨l.length, ys0, by omega, by omega, rfl, h1, H2, R3, B2⟩
  case round =>
    obtain ⟨j, ys, hj0, hj, rfl, hyl, HT, R4, B4⟩ := hrel
    by_cases hlt : j < l.length + 5
    · have x0 := (Kd.R_cell (d := 0) (by have h := R4.out; rw [← hyl] at h; exact h) (j : Int) (by omega) (by omega)).1
      obtain ⟨r', cap', hv, hr1, hr2, cells', hrb⟩ := Kd.R_form R4.out (by omega)
      injection hv with hv _ _
      injection hv with hv
      injection hv with hv _ _
      subst hv
      rw [Int.toNat_natCast] at x0
      have x1 := blk_frozen hrb j
      obtain ⟨x, hx⟩ : ∃ x : Nat, x = (200 + j) % 256 := ⟨_, rfl⟩
      have hw1 : IntKind.u8.wrap (200 + (j : Int)) = (x : Int) := by simp only [IntKind.wrap_u8]; omega
      have hw2 : ((200 : Int) + (j : Int)) % 256 = (x : Int) := by omega
      have HYL := Aside0.mk hyl
      have HRB2 := Aside0.mk hrb
      clear hx hrb hyl
      go_wp2
      go_roundw
      case measure => simp [intOf]; omega
      case rel =>
        have hp := Kd.R_putn R4.out (j : Int) x
        rw [Int.toNat_natCast] at hp
        exact ⟨j + 1, ys.set j x, by omega, by omega, by go_num, by rw [List.length_set]; exact HYL.out, ⟨by rw [List.take_set, List.set_eq_of_length_le (by simp; omega)]; exact HT.out⟩, ⟨hp⟩, ⟨B4.out.setCell (p := ⟨r, j, none⟩) HRB.out _⟩⟩
    · obtain rfl : j = l.length + 5 := by omega
      have R5 : Aside0 (Kd.R (nat .u8) 5 wr w.heap.size (fun _ => True) (.slice (some ⟨r, 0, none⟩) ys.length cap0) ys) := ⟨by have h := R4.out; rw [← hyl] at h; exact h⟩
      have HG4 := Aside0.mk (blk_below HG.out B4.out)
      have hg0 := (blk_cell HG4.out 2).trans rfl
      have fg0 := blk_frozen HG4.out 2
      go_wp2_with ((with_reducible refine gate_builtin (b := .append) (xs := #[.tmp 32, .tmp 34]) rfl ?_); at_builtin; refine Kd.R_append_row Hd.v (none, 0, 0) (h1 := fun _ => rfl) (w0 := w) w.heap.size rfl (.tmp 32) (.tmp 34) 29 40 (.slice none 0 0) 24 rfl Try.underlying29 info40 rfl (by omega) (.slice none 0 0) [] [(some ⟨r, 0, none⟩, l.length + 5, cap0)] _ 1 1 (fun _ => True) rfl rfl (fun _ _ => trivial) (Kd.R_nil _ _ _ _ _) (hdr_new [(some ⟨r, 0, none⟩, l.length + 5, cap0)] (blk_new _ _) rfl (by simp)) (B4.out.alloc B4.out.size _) (B4.out.alloc B4.out.size _).size ?aL ?_; (case aL => simp); intro v5 w5 hR1 hB1 hg1 hat1; rw [List.nil_append] at hR1; obtain ⟨A5, c5, rfl, hc5, hC5⟩ := Kd.R_reads hR1; have Y5 := Aside0.mk hR1; have B5 := Aside0.mk hB1; have R6 := Aside0.mk (Kd.R_mono (Kd.R_grown (Kd.R_below R5.out ((Below.refl _ _).alloc (Nat.le_refl _) _)) hg1 (fun k _ h => by cases h)) (fun _ _ => trivial)); have HG5 := Aside0.mk (blk_grown (blk_alloc HG4.out _) hg1 (by intro h; cases h)); clear hR1 hB1 hg1 hat1 hC5; have fg5 := blk_frozen HG5.out 2; have hg5 := (blk_cell HG5.out 2).trans rfl)
      have KW : Aside0 ((w5.setCell ⟨g, 2, none⟩ (.slice A5 1 c5)).heap[g]? = some (.cells #[.slice none 0 0, .slice none 0 0, .slice A5 1 c5, .slice none 0 0, .slice none 0 0, .slice none 0 0, .slice none 0 0, .slice none 0 0] 38 (0, 0))) := ⟨(blk_set HG5.out 2 (.slice A5 1 c5)).trans rfl⟩
      have RW := Aside0.mk (Kd.R_set R6.out HG5.out (by decide) 2 (.slice A5 1 c5))
      have YW := Aside0.mk (Kd.R_set Y5.out HG5.out (by decide) 2 (.slice A5 1 c5))
      have GW := Aside0.mk (gset (grown_of_below (g := g) B5.out) 2 (.slice A5 1 c5))
      obtain ⟨W, hW⟩ : ∃ W, W = w5.setCell ⟨g, 2, none⟩ (.slice A5 1 c5) := ⟨_, rfl⟩
      rw [← hW] at KW RW YW GW
      rw [← hW]
      have K8 := Aside0.mk (blk_drew KW.out)
      have R8 := Aside0.mk (Kd.R_drew RW.out)
      have Y8 := Aside0.mk (Kd.R_drew YW.out)
      have G8 := Aside0.mk (gdrewN GW.out 1)
      have HYL := Aside0.mk hyl
      clear hW hyl
      refine start_ (n := 12) (S := fun w' => w'.cell? ⟨g, 3, none⟩ = some (.slice none 0 0)) (ds := [11]) #[false, false, false, false, false, false, false, false, false, false, false, false] (by kernel_rfl) rfl rfl ((blk_cell K8.out 3).trans rfl) (fun hHeld => ?_)
      refine pure_ (i := 0) (N := some 38) (v := ?_) (a' := ?_) #[true, false, false, false, false, false, false, false, false, false, false, false] rfl rfl (by kernel_rfl) (fun _ _ _ h => h) (Or.inl ⟨by rfl, ?_⟩) ?_ ?_
      rotate_left
      · intro w'
        go_simp
        with_reducible rfl
      rotate_left
      · simp only [Act.put, List.setIfInBounds_toArray, List.set_cons_zero, List.set_cons_succ, i64_w, i32_w]
        rfl
      refine pure_ (i := 1) (N := some 39) (v := ?_) (a' := ?_) #[true, true, false, false, false, false, false, false, false, false, false, false] rfl rfl (by kernel_rfl) (fun _ _ _ h => h) (Or.inl ⟨by rfl, ?_⟩) ?_ ?_
      rotate_left
      · intro w'
        go_simp
        with_reducible rfl
      rotate_left
      · simp only [Act.put, List.setIfInBounds_toArray, List.set_cons_zero, List.set_cons_succ, i64_w, i32_w]
        rfl
      refine pure_ (i := 2) (N := some 40) (v := ?_) (a' := ?_) #[true, true, true, false, false, false, false, false, false, false, false, false] rfl rfl (by kernel_rfl) (fun _ _ _ h => h) (Or.inl ⟨by rfl, ?_⟩) ?_ ?_
      rotate_left
      · intro w'
        go_simp
        with_reducible rfl
      rotate_left
      · simp only [Act.put, List.setIfInBounds_toArray, List.set_cons_zero, List.set_cons_succ, i64_w, i32_w]
        rfl
      refine pure_ (i := 3) (N := some 41) (v := ?_) (a' := ?_) #[true, true, true, true, false, false, false, false, false, false, false, false] rfl rfl (by kernel_rfl) (fun _ _ _ h => h) (Or.inl ⟨by rfl, ?_⟩) ?_ ?_
      rotate_left
      · intro w'
        go_simp
        with_reducible rfl
      rotate_left
      · simp only [Act.put, List.setIfInBounds_toArray, List.set_cons_zero, List.set_cons_succ, i64_w, i32_w]
        rfl
      refine pure_ (i := 5) (N := some 43) (v := ?_) (a' := ?_) #[true, true, true, true, false, true, false, false, false, false, false, false] rfl rfl (by kernel_rfl) (fun _ _ _ h => h) (Or.inl ⟨by rfl, ?_⟩) ?_ ?_
      rotate_left
      · intro w'
        go_simp
        with_reducible rfl
      rotate_left
      · simp only [Act.put, List.setIfInBounds_toArray, List.set_cons_zero, List.set_cons_succ, i64_w, i32_w]
        rfl
      refine take_ (i := 4) (N := some 42) (v := ?_) (a' := ?_) #[true, true, true, true, true, true, false, false, false, false, false, false] rfl rfl (by kernel_rfl) (fun _ _ _ h => h) (Or.inl ⟨by rfl, ?_⟩) hHeld ?_ ?_
      rotate_left
      · intro w' s0
        go_simp
        with_reducible rfl
      rotate_left
      · simp only [Act.put, List.setIfInBounds_toArray, List.set_cons_zero, List.set_cons_succ, i64_w, i32_w]
        rfl
      refine one_ (i := 6) (N := some 44) #[true, true, true, true, true, true, true, false, false, false, false, false] rfl rfl (by kernel_rfl) (by decide) (fun K hK => ?_)
      refine Kd.R_append_rows_step (nat .u8) (Rr := (nat .u8).K W.drew) (w0 := _) w.heap.size (by rfl) (.const (.slice none 0 0)) (.tmp 43) 40 5 (.int .u8 0) 1 rfl Try.underlying40 info5 rfl (by decide) (by omega) (.slice none 0 0) [] ys (some ⟨r, 0, none⟩) (l.length + 5) cap0 (fun _ => True) (fun _ => False) rfl rfl (Kd.R_nil _ _ _ _ _) ?aR (fun x cs h => h) (fun _ h => h.elim) (fun _ _ => trivial) (Below.refl _ _) ?aS ?aL ?_
      (case aR => have h := rows_of R8.out; rw [HYL.out] at h; exact h)
      (case aS => exact G8.out.size)
      (case aL => simp; omega)
      intro v6 w6 hR1 hB1 hg1 hat1
      rw [List.nil_append] at hR1
      obtain ⟨A6, c6, rfl, hc6, hC6⟩ := Kd.R_reads hR1
      have R6 := Aside0.mk hR1
      have B6 := Aside0.mk hB1
      have K6 := Aside0.mk (blk_grown K8.out hg1 (by intro h; cases h))
      have Y6 := Aside0.mk (Kd.R_mono (Kd.R_grown Y8.out hg1 (fun k _ h => by cases h)) (fun _ _ => trivial))
      have Z6 := Aside0.mk (Kd.R_mono (Kd.R_grown R8.out hg1 (fun k _ h => by cases h)) (fun _ _ => trivial))
      clear hR1 hB1 hat1 hg1 hC6
      refine hK.out _ _ ((blk_cell K6.out 3).trans rfl) (fun hHeld => ?_)
      clear hK K
      refine norm_ (a' := ?_) ?_ ?_
      rotate_left
      · show Act.put _ (some 44) _ = _
        simp only [Act.put, List.setIfInBounds_toArray, List.set_cons_zero, List.set_cons_succ, i64_w, i32_w]
        rfl
      refine one_ (i := 7) (N := some 45) #[true, true, true, true, true, true, true, true, false, false, false, false] rfl rfl (by kernel_rfl) (by decide) (fun K hK => ?_)
      refine value_ (w1 := ?_) (v := ?_) (by rfl) rfl ?_ ?_
      rotate_left 2
      · go_simp
        constructor
        · rfl
        · rfl
      refine hK.out _ _ ((blk_cell (blk_alloc K6.out _) 3).trans rfl) (fun hHeld => ?_)
      clear hK K
      refine norm_ (a' := ?_) ?_ ?_
      rotate_left
      · show Act.put _ (some 45) _ = _
        simp only [Act.put, List.setIfInBounds_toArray, List.set_cons_zero, List.set_cons_succ, i64_w, i32_w]
        rfl
      refine one_ (i := 8) (N := some 46) #[true, true, true, true, true, true, true, true, true, false, false, false] rfl rfl (by kernel_rfl) (by decide) (fun K hK => ?_)
      refine Kd.R_append_step hdr (w0 := _) w.heap.size (by rfl) (.tmp 42) (.tmp 45) 29 40 (.slice none 0 0) 24 rfl Try.underlying29 info40 rfl (by decide) (by omega) (.slice none 0 0) [] (A6, ys.length, c6) [.slice A6 ys.length c6] (fun _ => True) (fun _ => False) rfl rfl ?aP (fun _ hk => hk.elim) (fun _ _ => trivial) (Kd.R_nil _ _ _ _ _) B6.out ?aS ?aL ?_
      (case aP => exact rfl)
      (case aS => exact Nat.le_trans G8.out.size B6.out.size)
      (case aL => simp)
      intro v7 w7 hR1 hB1 hg1 hat1
      rw [List.nil_append] at hR1
      have R7 := Aside0.mk hR1
      have B7 := Aside0.mk hB1
      have K7 := Aside0.mk (blk_grown K6.out hg1 (by intro h; cases h))
      have Y7 := Aside0.mk (Kd.R_mono (Kd.R_grown Y6.out hg1 (fun k _ h => by cases h)) (fun _ _ => trivial))
      have X7 := Aside0.mk (Kd.R_mono (Kd.R_grown R6.out hg1 (fun k _ h => by cases h)) (fun _ _ => trivial))
      have Z7 := Aside0.mk (Kd.R_mono (Kd.R_grown Z6.out hg1 (fun k _ h => by cases h)) (fun _ _ => trivial))
      obtain ⟨A7, c7, rfl, hc7, hC7⟩ := Kd.R_reads hR1
      clear hR1 hB1 hat1 hg1 hC7
      refine hK.out _ _ ((blk_cell K7.out 3).trans rfl) (fun hHeld => ?_)
      clear hK K
      refine norm_ (a' := ?_) ?_ ?_
      rotate_left
      · show Act.put _ (some 46) _ = _
        simp only [Act.put, List.setIfInBounds_toArray, List.set_cons_zero, List.set_cons_succ, i64_w, i32_w]
        rfl
      refine pure_ (i := 9) (N := some 47) (v := ?_) (a' := ?_) #[true, true, true, true, true, true, true, true, true, true, false, false] rfl rfl (by kernel_rfl) (fun _ _ _ h => h) (Or.inl ⟨by rfl, ?_⟩) ?_ ?_
      rotate_left
      · intro w'
        go_simp
        with_reducible rfl
      rotate_left
      · simp only [Act.put, List.setIfInBounds_toArray, List.set_cons_zero, List.set_cons_succ, i64_w, i32_w]
        rfl
      refine pure_ (i := 10) (N := some 48) (v := ?_) (a' := ?_) #[true, true, true, true, true, true, true, true, true, true, true, false] rfl rfl (by kernel_rfl) (fun _ _ _ h => h) (Or.inl ⟨by rfl, ?_⟩) ?_ ?_
      rotate_left
      · intro w'
        go_simp
        with_reducible rfl
      rotate_left
      · simp only [Act.put, List.setIfInBounds_toArray, List.set_cons_zero, List.set_cons_succ, i64_w, i32_w]
        rfl
      refine last_ (i := 11) (N := none) #[true, true, true, true, true, true, true, true, true, true, true, true] rfl rfl (by kernel_rfl) (by decide) (fun K hK => ?_)
      have f1 := blk_frozen K7.out 3
      refine skip_ (w1 := ?_) (by rfl) rfl ?_ ?_
      rotate_left
      · go_simp
        rfl
      refine hK.out _ _ ?_
      clear hK K
      refine done_ (by kernel_rfl) ?_
      have hcl : l.length ≤ cap0 := by have := hcap0.out; omega
      try go_wp2
      go_ret
      have KF : (w7.setCell ⟨g, 3, none⟩ (.slice A7 1 c7)).heap[g]? = some (.cells #[.slice none 0 0, .slice none 0 0, .slice A5 1 c5, .slice A7 1 c7, .slice none 0 0, .slice none 0 0, .slice none 0 0, .slice none 0 0] 38 (0, 0)) := (blk_set K7.out 3 (.slice A7 1 c7)).trans rfl
      have ZF := Kd.R_set Z7.out K7.out (by decide) 3 (.slice A7 1 c7)
      have XF := Kd.R_set X7.out K7.out (by decide) 3 (.slice A7 1 c7)
      have YF := Kd.R_set Y7.out K7.out (by decide) 3 (.slice A7 1 c7)
      have RF := Kd.R_set R7.out K7.out (by decide) 3 (.slice A7 1 c7)
      have GF := gset (grown_below G8.out B7.out) 3 (.slice A7 1 c7)
      obtain ⟨r', cap', hv, _, _, cells', hrb⟩ := Kd.R_form ZF (by have := HYL.out; omega)
      injection hv with hv _ _
      injection hv with hv
      injection hv with hv _ _
      subst hv
      have hC1 := rows_of ZF
      have hC2 := C_take hC1 (n := l.length) (by have := HYL.out; omega)
      rw [HT.out] at hC2
      refine ⟨r, cap0, cells', rfl, by have := hcap0.out; omega, HRB.out, hC2, hrb, ?_, GF⟩
      clear hC1 hC2 hrb
      intro w' hk hgw
      have KF := hgw.trans KF
      have ZF := R_from ZF hk
      have XF := R_from XF hk
      have YF := R_from YF hk
      have RF := R_from RF hk
      have hC1 := rows_of ZF
      obtain ⟨A6', c6', e6, _, hC6⟩ := Kd.R_reads XF
      injection e6 with e6 _ _
      subst e6
      exact ⟨_, _, _, _, [], [], [(some ⟨r, 0, none⟩, l.length + 5, cap0)], [(A6, ys.length, c6)], KF, Hs.nil _, Hs.nil _, Hs.of_R YF, Hs.of_R RF, Sames.nil _ _, Sames.one ⟨ys, HYL.out.symm, rfl, hC1, hC6⟩⟩
end Go.Proofs.Ytpmmnjpimnapfaa.A
