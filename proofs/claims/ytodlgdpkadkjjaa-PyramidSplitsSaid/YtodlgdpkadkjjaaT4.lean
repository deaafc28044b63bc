import Derived.Test.YtodlgdpkadkjjaaT3
import Derived.BigQuiet
section
set_option linter.unusedVariables false
set_option linter.unusedSimpArgs false
namespace Go.Proofs.Ytodlgdpkadkjjaa.A
open Go.RowKit Go.Proofs.YtodlgdpkadkjjaaW.PrintWords Go.Proofs.YtodlgdpkadkjjaaW.PrintLast Go.Proofs.YtodlgdpkadkjjaaW.PrintMore

/-- the boxes of planes stay, and the rows of samples but the one at A -/
def KeepB (A : Option Addr) (w w' : World) : Prop := ∀ (k : Nat) (cs : Array Value) (t : TypeId), w.heap[k]? = some (Obj.cells cs t (0, 0)) → (t = 25 ∨ t = 50 ∧ ∀ ad, A = some ad → ad.block ≠ k) → w'.heap[k]? = w.heap[k]?
theorem KeepB.refl (A : Option Addr) (w : World) : KeepB A w w := fun _ _ _ _ _ => rfl
theorem KeepB.trans {A : Option Addr} {a b c : World} (h : KeepB A a b) (k : KeepB A b c) : KeepB A a c := fun i cs t hi ht => (k i cs t ((h i cs t hi ht).trans hi) ht).trans (h i cs t hi ht)
theorem KeepB.below {A : Option Addr} {a b : World} (h : Below a.heap.size a b) : KeepB A a b := fun i cs t hi _ => h.block i (blk_lt hi)
theorem KeepB.set {A : Option Addr} {w : World} {g t : Nat} {cs : Array Value} (hK : w.heap[g]? = some (.cells cs t (0, 0))) (ht : t ≠ 25 ∧ t ≠ 50) (i : Nat) (u : Value) : KeepB A w (w.setCell ⟨g, i, none⟩ u) := fun k cs' t' hk hc => Below.heap_setCell w _ u k (blk_ne hk hK (fun e => by rcases hc with rfl | ⟨rfl, _⟩; exact ht.1 e.symm; exact ht.2 e.symm))
theorem KeepB.grown {A : Option Addr} {w w1 : World} {row : Option Nat} (hg : w.grownBy w1 row) (hne : ∀ (k : Nat) (cs : Array Value) (t : TypeId), w.heap[k]? = some (Obj.cells cs t (0, 0)) → (t = 25 ∨ t = 50) → some k ≠ row) : KeepB A w w1 := fun k cs t hk ht => hg.block k (blk_lt hk) (hne k cs t hk (by rcases ht with h | h; exact .inl h; exact .inr h.1))
theorem KeepB.grown_alloc {A : Option Addr} {w w1 : World} {o : Obj} {row : Option Nat} (hg : (w.alloc o).grownBy w1 row) (hne : ∀ (k : Nat) (cs : Array Value) (t : TypeId), w.heap[k]? = some (Obj.cells cs t (0, 0)) → (t = 25 ∨ t = 50) → some k ≠ row) : KeepB A w w1 := fun k cs t hk ht => (hg.block k (blk_lt (blk_alloc hk o)) (hne k cs t hk (by rcases ht with h | h; exact .inl h; exact .inr h.1))).trans ((blk_alloc hk o).trans hk.symm)
theorem mark_calls (m i : Int) (w : World) : Calls Try.prog 58 #[.int .i64 m, .int .i64 i] w fun e w' => e = .returned (.int .i64 (wrap64 ((wrap64 (wrap64 (wrap64 (m * 31) + wrap64 (i * 7)) + 1)).tmod 250 + 1))) ∧ w = w' := by
 go_enter Try.func58, Try.ntmps58
 go_wp2
 go_ret
 exact ⟨rfl, rfl⟩

theorem gset {a w : World} {g : Nat} (h : a.grownBy w (some g)) (i : Nat) (u : Value) : a.grownBy (w.setCell ⟨g, i, none⟩ u) (some g) :=
 ⟨h.os, h.tape, h.output, by simpa [World.setCell] using h.size, fun k hk hne => (Below.heap_setCell w ⟨g, i, none⟩ u k (by rintro rfl; exact hne rfl)).trans (h.block k hk hne)⟩
theorem below_of_grown {w w1 : World} {B g : Nat} (hg : w.grownBy w1 (some g)) (hB : B ≤ g) (hs : B ≤ w.heap.size) : Below B w w1 :=
 ⟨hg.os, hg.tape, hg.output, hg.size, fun k hk => hg.block k (by omega) (by intro e; injection e; omega)⟩
def intK : Kd Int := Kd.scalar (fun x : Int => Value.int .i64 x) (fun _ => rfl)
def mkA (m : Int) (i : Nat) : Int := wrap64 ((wrap64 (wrap64 (wrap64 (m * 31) + wrap64 ((i : Int) * 7)) + 1)).tmod 250 + 1)
theorem mk_calls (m : Int) (i : Nat) (w : World) : Calls Try.prog 58 #[.int .i64 m, .int .i64 i] w fun e w' => e = .returned (.int .i64 (mkA m i)) ∧ w = w' := mark_calls m i w
def Marked (k : IntKind) (M : Int) (e : TypeId) (w : World) (B : Nat) (h : Hd) (m : Int) : Prop := (h.1 = none ∧ h.2.1 = 0) ∨ ∃ r cur, h.1 = some ⟨r, 0, none⟩ ∧ B ≤ r ∧ w.heap[r]? = some (.cells cur e (0, 0)) ∧ h.2.1 ≤ cur.size ∧ h.2.1 ≤ 9223372036854775807 ∧ ∀ j, j < h.2.1 → cur[j]? = some (.int k (mkA m j % M))
theorem Marked.move {k : IntKind} {M : Int} {e : TypeId} {w w1 : World} {B : Nat} {h : Hd} {m : Int} (H : Marked k M e w B h m) (hm : ∀ r (cur : Array Value), h.1 = some ⟨r, 0, none⟩ → w.heap[r]? = some (Obj.cells cur e (0, 0)) → w1.heap[r]? = w.heap[r]?) : Marked k M e w1 B h m := by
 rcases H with H | ⟨r, cur, h1, hb, h2, h3⟩
 ·exact .inl H
 ·exact .inr ⟨r, cur, h1, hb, by rw [hm r cur h1 h2]; exact h2, h3⟩
def Markeds (k : IntKind) (M : Int) (e : TypeId) (w : World) (B : Nat) (hs : List Hd) (ms : List Int) : Prop := hs.length = ms.length ∧ ∀ i (h1 : i < hs.length) (h2 : i < ms.length), Marked k M e w B hs[i] ms[i]
theorem Markeds.move {k : IntKind} {M : Int} {e : TypeId} {w w1 : World} {B : Nat} {hs : List Hd} {ms : List Int} (H : Markeds k M e w B hs ms) (hm : ∀ (r : Nat) (cur : Array Value), w.heap[r]? = some (Obj.cells cur e (0, 0)) → w1.heap[r]? = w.heap[r]?) : Markeds k M e w1 B hs ms := ⟨H.1, fun i h1 h2 => (H.2 i h1 h2).move fun r cur _ h => hm r cur h⟩
theorem Markeds.grown {α : Type} {d : Kd α} {k : IntKind} {M : Int} {e e' : TypeId} {w w1 : World} {B base : Nat} {hs : List Hd} {ms : List Int} {ok : Nat → Prop} {v : Value} {xs : List α} (H : Markeds k M e w B hs ms) (hR : d.R e' w base ok v xs) (hne : e' ≠ e) (hg : w.grownBy w1 v.ownBlock) : Markeds k M e w1 B hs ms := H.move fun r cur hr => hg.block r (blk_lt hr) (Kd.R_ne hR hr hne)
theorem Markeds.below {k : IntKind} {M : Int} {e : TypeId} {w w1 : World} {B : Nat} {hs : List Hd} {ms : List Int} (H : Markeds k M e w B hs ms) (hb : Below w.heap.size w w1) : Markeds k M e w1 B hs ms := H.move fun r cur hr => hb.block r (blk_lt hr)
theorem Markeds.alloc {k : IntKind} {M : Int} {e : TypeId} {w : World} {B : Nat} {hs : List Hd} {ms : List Int} (H : Markeds k M e w B hs ms) (o : Obj) : Markeds k M e (w.alloc o) B hs ms := H.below ((Below.refl _ _).alloc (Nat.le_refl _) o)
theorem Markeds.set {k : IntKind} {M : Int} {e t : TypeId} {w : World} {B g : Nat} {cs : Array Value} {hs : List Hd} {ms : List Int} (H : Markeds k M e w B hs ms) (hK : w.heap[g]? = some (.cells cs t (0, 0))) (ht : e ≠ t) (i : Nat) (u : Value) : Markeds k M e (w.setCell ⟨g, i, none⟩ u) B hs ms := H.move fun r cur hr => Below.heap_setCell w _ u r (blk_ne hr hK ht)
theorem Markeds.snoc {k : IntKind} {M : Int} {e : TypeId} {w : World} {B : Nat} {hs : List Hd} {ms : List Int} {h : Hd} {m : Int} (H : Markeds k M e w B hs ms) (h1 : Marked k M e w B h m) : Markeds k M e w B (hs ++ [h]) (ms ++ [m]) := by
 refine ⟨by simp [H.1], fun i h2 h3 => ?_⟩
 by_cases hi : i < hs.length
 ·have hi' : i < ms.length := by have := H.1; omega
  rw [List.getElem_append_left hi, List.getElem_append_left hi']; exact H.2 i hi hi'
 ·have e1 : i = hs.length := by simp at h2; omega
  subst e1
  rw [List.getElem_append_right (Nat.le_refl _), List.getElem_append_right (by have := H.1; omega)]
  simpa using h1
/-- none of the kept lists lies in block r -/
def Apart (hs : List Hd) (r : Nat) : Prop := ∀ h ∈ hs, ∀ ad, h.1 = some ad → ad.block ≠ r
theorem Markeds.apart {k : IntKind} {M : Int} {e : TypeId} {w w1 : World} {B r : Nat} {hs : List Hd} {ms : List Int} (H : Markeds k M e w B hs ms) (hA : Apart hs r) (hg : w.grownBy w1 (some r)) : Markeds k M e w1 B hs ms :=
 ⟨H.1, fun i h1 h2 => (H.2 i h1 h2).move fun r' cur h3 h4 => hg.block r' (blk_lt h4) (fun e => hA _ (List.getElem_mem h1) _ h3 (by injection e))⟩

def BkSamples (w : World) (g B : Nat) (hs : List Hd) (ms : List Int) : Prop := ∃ v vm, w.heap[g]? = some (.cells #[v, .slice none 0 0, .slice none 0 0, .slice none 0 0, vm, .slice none 0 0, .slice none 0 0, .slice none 0 0] 34 (0, 0)) ∧ Kd.R hdr 23 w B (fun _ => True) v hs ∧ Kd.R intK 3 w B (fun _ => True) vm ms ∧ Markeds .u32 4294967296 50 w B hs ms
theorem BkSamples.below {w w1 : World} {g B : Nat} {hs : List Hd} {ms : List Int} (h : BkSamples w g B hs ms) (hb : Below w.heap.size w w1) : BkSamples w1 g B hs ms := by
 obtain ⟨v, vm, h1, h2, h3, h4⟩ := h
 exact ⟨v, vm, blk_below h1 hb, Kd.R_below h2 hb, Kd.R_below h3 hb, Markeds.below h4 hb⟩
set_option maxHeartbeats 8000000 in
set_option maxRecDepth 100000 in
theorem markSamples (g B r n c : Nat) (cur : Array Value) (m : Int) (hs : List Hd) (ms : List Int) (w : World) (hK : BkSamples w g B hs ms) (hgB : g < B) (hBs : B ≤ w.heap.size) (hr : w.heap[r]? = some (.cells cur 50 (0, 0))) (hrB : B ≤ r) (hnc : n ≤ c) (hc : c ≤ cur.size) (hcm : c ≤ 9223372036854775807) (hA : Apart hs r) (hlen : hs.length ≤ 1000000) :
    Calls Try.prog 56 #[.pointer (some ⟨g, 0, none⟩), .slice (some ⟨r, 0, none⟩) n c, .int .i64 m] w fun e w' => e = .returned (.tuple #[]) ∧ BkSamples w' g B (hs ++ [(some ⟨r, 0, none⟩, c, c)]) (ms ++ [m]) ∧ But B g w w' ∧ KeepB (some ⟨r, 0, none⟩) w w' := by
 obtain ⟨v, vm, h1, h2, h3, h4⟩ := hK
 have HSM := Aside0.mk h4.1
 obtain ⟨As, cs, rfl, _, _⟩ := Kd.R_reads h2
 obtain ⟨Am, cm, rfl, _, _⟩ := Kd.R_reads h3
 have H1 := Aside0.mk h1
 have H2 := Aside0.mk h2
 have H3 := Aside0.mk h3
 have H4 := Aside0.mk h4
 have HR := Aside0.mk hr
 have HCZ := Aside0.mk hc
 have hgr : Aside0 (g ≠ r) := ⟨by omega⟩
 clear h1 h2 h3 h4 hr hc
 go_enter Try.func56, Try.ntmps56
 go_wp2
 go_loopw [6] (fun v wr => ∃ (j : Nat) (cur' : Array Value), j ≤ c ∧ v = .int .i64 j ∧ cur'.size = cur.size ∧ Aside0 (∀ i, i < j → cur'[i]? = some (.int .u32 (mkA m i % 4294967296))) ∧ Aside0 (wr.heap[r]? = some (.cells cur' 50 (0, 0))) ∧ Aside0 (w.grownBy wr (some r))) (fun v _ => c - (intOf v).toNat)
 case atStart => exact ⟨0, cur, by omega, rfl, rfl, ⟨fun i hi => by omega⟩, HR, ⟨World.grownBy.refl w _⟩⟩
 case round =>
  obtain ⟨j, cur', hj, rfl, hz, HI, HR1, HG⟩ := hrel
  by_cases hlt : j < c
  ·have x0 : wr.cell? ⟨r, j, none⟩ = some cur'[j]! := by
    rw [blk_cell HR1.out j, Array.getElem?_eq_getElem (by have := HCZ.out; omega), getElem!_pos cur' j (by have := HCZ.out; omega)]
   have x1 := blk_frozen HR1.out j
   have HZ := Aside0.mk hz
   clear hz
   go_wp2_with (go_at_call 58; refine (mk_calls m j _).mono ?_; rintro e w2 ⟨rfl, rfl⟩)
   refine ⟨⟨j + 1, cur'.set! j (.int .u32 (mkA m j % 4294967296)), by omega, by go_num, by rw [Array.size_set!]; exact HZ.out, ⟨fun i hi => ?_⟩, ⟨(blk_set HR1.out j _).trans (by rw [Array.set!_eq_setIfInBounds])⟩, ⟨gset HG.out j _⟩⟩, by simp [intOf]; omega⟩
   rw [Array.set!_eq_setIfInBounds, Array.getElem?_setIfInBounds]
   by_cases hij : j = i
   ·subst hij
    rw [if_pos rfl, if_pos (by have := HZ.out; have := HCZ.out; omega)]
   ·rw [if_neg hij]; exact HI.out i (by omega)
  ·obtain rfl : c = j := by omega
   have HZ := Aside0.mk hz
   clear hz
   have K1 := Aside0.mk (blk_grown H1.out HG.out (by intro e; injection e; omega))
   have Y1 := Aside0.mk (Kd.R_mono (Kd.R_grown (Kd.R_types H2.out HR.out (by decide)) HG.out (fun k hk he => hk.2 (by injection he))) (fun _ _ => trivial))
   have M1 := Aside0.mk (Kd.R_mono (Kd.R_grown (Kd.R_types H3.out HR.out (by decide)) HG.out (fun k hk he => hk.2 (by injection he))) (fun _ _ => trivial))
   have L1 := Aside0.mk (H4.out.apart hA HG.out)
   have T1 : Aside0 (But B g w wr) := ⟨.of_below (below_of_grown HG.out hrB hBs)⟩
   have Z1 : Aside0 (KeepB (some ⟨r, 0, none⟩) w wr) := ⟨fun k cs t hk hc => HG.out.block k (blk_lt hk) (fun e => by injection e with e; subst e; rcases hc with rfl | ⟨_, h⟩; (rw [HR.out] at hk; injection hk with hk; injection hk with _ e; exact absurd e (by decide)); exact h _ rfl rfl)⟩
   have hg0 := (blk_cell K1.out 0).trans rfl
   have S1 : Aside0 (B ≤ wr.heap.size) := ⟨Nat.le_trans hBs T1.out.size⟩
   obtain ⟨hs', hh⟩ : ∃ hs' : List Hd, hs' = hs ++ [(some ⟨r, 0, none⟩, c, c)] := ⟨_, rfl⟩
   obtain ⟨ms', hm'⟩ : ∃ ms' : List Int, ms' = ms ++ [m] := ⟨_, rfl⟩
   have HH := Aside0.mk hh
   have HM := Aside0.mk hm'
   clear hh hm'
   go_wp2_with ((with_reducible refine gate_builtin (b := .append) (xs := #[.tmp 28, .tmp 30]) rfl ?_); at_builtin; refine Kd.R_append_row Hd.v (none, 0, 0) (h1 := fun _ => rfl) (w0 := _) B rfl (.tmp 28) (.tmp 30) 27 23 (.slice none 0 0) 24 rfl Try.underlying27 infoH rfl (by omega) (.slice As hs.length cs) hs [(some ⟨r, 0, none⟩, c, c)] _ 1 1 (fun _ => True) rfl rfl (fun _ _ => trivial) (Kd.R_alloc Y1.out _) (hdr_new [(some ⟨r, 0, none⟩, c, c)] (blk_new _ _) rfl (by simp)) (Below.refl _ _) ?aS ?aL ?_; (case aS => exact ((Below.refl B wr).alloc S1.out _).size |> Nat.le_trans S1.out); (case aL => omega); intro v5 w5 hR1 hB1 hg1 hat1; rw [← HH.out] at hR1; obtain ⟨A5, c5, rfl, hc5, hC5⟩ := Kd.R_reads hR1; have Y5 := Aside0.mk hR1; have K5 := Aside0.mk (blk_grown (blk_alloc K1.out _) hg1 (Kd.R_ne Y1.out K1.out (by decide))); have B5 := Aside0.mk hB1; have M5 := Aside0.mk (Kd.R_over (Kd.R_alloc M1.out _) (Kd.R_alloc Y1.out _) (by decide) hg1); have L5 : Aside0 (Markeds .u32 4294967296 50 w5 B hs ms) := ⟨Markeds.grown (L1.out.alloc _) (Kd.R_alloc Y1.out _) (by decide) hg1⟩; have R5 := Aside0.mk (blk_grown (blk_alloc HR1.out _) hg1 (Kd.R_ne Y1.out HR1.out (by decide))); have Q5 := Aside0.mk ((Below.refl B wr).alloc S1.out _ |>.trans hB1); have Z5 : Aside0 (KeepB (some ⟨r, 0, none⟩) w w5) := ⟨Z1.out.trans (KeepB.grown_alloc hg1 (fun k cs t hk ht => Kd.R_ne Y1.out hk (by rcases ht with rfl | rfl <;> decide)))⟩; clear hR1 hB1 hg1 hat1 hC5; have fg5 := blk_frozen K5.out 0; have hg5 := (blk_cell K5.out 0).trans rfl)
   obtain ⟨W, hW⟩ : ∃ W, W = w5.setCell ⟨g, 0, none⟩ (.slice A5 hs'.length c5) := ⟨_, rfl⟩
   have KW : Aside0 (W.heap[g]? = some (.cells #[.slice A5 hs'.length c5, .slice none 0 0, .slice none 0 0, .slice none 0 0, (.slice Am ms.length cm), .slice none 0 0, .slice none 0 0, .slice none 0 0] 34 (0, 0))) := ⟨by rw [hW]; exact (blk_set K5.out 0 _).trans rfl⟩
   have YW : Aside0 (Kd.R hdr 23 W B (fun _ => True) (.slice A5 hs'.length c5) hs') := ⟨by rw [hW]; exact Kd.R_set Y5.out K5.out (by decide) 0 _⟩
   have MW : Aside0 (Kd.R intK 3 W B (fun _ => True) (.slice Am ms.length cm) ms) := ⟨by rw [hW]; exact Kd.R_set M5.out K5.out (by decide) 0 _⟩
   have LW : Aside0 (Markeds .u32 4294967296 50 W B hs ms) := ⟨by rw [hW]; exact Markeds.set L5.out K5.out (by decide) 0 _⟩
   have RW : Aside0 (W.heap[r]? = some (.cells cur' 50 (0, 0))) := ⟨by rw [hW]; exact (Below.heap_setCell w5 _ _ r (fun h => hgr.out h.symm)).trans R5.out⟩
   have TW : Aside0 (But B g w W) := ⟨by rw [hW]; exact (T1.out.trans (.of_below Q5.out)).set 0 _⟩
   have ZW : Aside0 (KeepB (some ⟨r, 0, none⟩) w W) := ⟨by rw [hW]; exact Z5.out.trans (KeepB.set K5.out (by decide) _ _)⟩
   rw [← hW]
   have K8 := Aside0.mk (blk_drew KW.out)
   have Y8 := Aside0.mk (Kd.R_drew YW.out)
   have M8 := Aside0.mk (Kd.R_drew MW.out)
   have L8 : Aside0 (Markeds .u32 4294967296 50 W.drew B hs ms) := ⟨Markeds.below LW.out (pw_below_drewN (Below.refl _ W) 1)⟩
   have R8 := Aside0.mk (blk_drew RW.out)
   have T8 : Aside0 (But B g w W.drew) := ⟨TW.out.trans (.of_below (pw_below_drewN (Below.refl _ W) 1))⟩
   have G8 : Aside0 (B ≤ W.drew.heap.size) := ⟨Nat.le_trans hBs T8.out.size⟩
   have Z8 : Aside0 (KeepB (some ⟨r, 0, none⟩) w W.drew) := ⟨ZW.out.trans (KeepB.below (pw_below_drewN (Below.refl _ W) 1))⟩
   clear hW
   refine start_ (n := 13) (S := fun w' => w'.cell? ⟨g, 4, none⟩ = some (.slice Am ms.length cm)) (ds := [12]) #[ff_,ff_,ff_,ff_,ff_,ff_,ff_,ff_,ff_,ff_,ff_,ff_,ff_] (by kernel_rfl) rfl rfl ((blk_cell K8.out 4).trans rfl) (fun hHeld => ?_)
   refine pure_ (i := 0) (N := some 34) (v := ?_) (a' := ?_) #[tt_,ff_,ff_,ff_,ff_,ff_,ff_,ff_,ff_,ff_,ff_,ff_,ff_] rfl rfl (by kernel_rfl) (fun _ _ _ h => h) (Or.inl ⟨by rfl, ?_⟩) ?_ ?_
   rotate_left
   ·intro w'
    go_simp
    with_reducible rfl
   rotate_left
   ·simp only [Act.put, List.setIfInBounds_toArray, List.set_cons_zero, List.set_cons_succ, i64_w, i32_w]
    rfl
   refine pure_ (i := 1) (N := some 35) (v := ?_) (a' := ?_) #[tt_,tt_,ff_,ff_,ff_,ff_,ff_,ff_,ff_,ff_,ff_,ff_,ff_] rfl rfl (by kernel_rfl) (fun _ _ _ h => h) (Or.inl ⟨by rfl, ?_⟩) ?_ ?_
   rotate_left
   ·intro w'
    go_simp
    with_reducible rfl
   rotate_left
   ·simp only [Act.put, List.setIfInBounds_toArray, List.set_cons_zero, List.set_cons_succ, i64_w, i32_w]
    rfl
   refine pure_ (i := 2) (N := some 36) (v := ?_) (a' := ?_) #[tt_,tt_,tt_,ff_,ff_,ff_,ff_,ff_,ff_,ff_,ff_,ff_,ff_] rfl rfl (by kernel_rfl) (fun _ _ _ h => h) (Or.inl ⟨by rfl, ?_⟩) ?_ ?_
   rotate_left
   ·intro w'
    go_simp
    with_reducible rfl
   rotate_left
   ·simp only [Act.put, List.setIfInBounds_toArray, List.set_cons_zero, List.set_cons_succ, i64_w, i32_w]
    rfl
   refine pure_ (i := 3) (N := some 37) (v := ?_) (a' := ?_) #[tt_,tt_,tt_,tt_,ff_,ff_,ff_,ff_,ff_,ff_,ff_,ff_,ff_] rfl rfl (by kernel_rfl) (fun _ _ _ h => h) (Or.inl ⟨by rfl, ?_⟩) ?_ ?_
   rotate_left
   ·intro w'
    go_simp
    with_reducible rfl
   rotate_left
   ·simp only [Act.put, List.setIfInBounds_toArray, List.set_cons_zero, List.set_cons_succ, i64_w, i32_w]
    rfl
   refine pure_ (i := 4) (N := some 38) (v := ?_) (a' := ?_) #[tt_,tt_,tt_,tt_,tt_,ff_,ff_,ff_,ff_,ff_,ff_,ff_,ff_] rfl rfl (by kernel_rfl) (fun _ _ _ h => h) (Or.inl ⟨by rfl, ?_⟩) ?_ ?_
   rotate_left
   ·intro w'
    go_simp
    with_reducible rfl
   rotate_left
   ·simp only [Act.put, List.setIfInBounds_toArray, List.set_cons_zero, List.set_cons_succ, i64_w, i32_w]
    rfl
   refine pure_ (i := 6) (N := some 40) (v := ?_) (a' := ?_) #[tt_,tt_,tt_,tt_,tt_,ff_,tt_,ff_,ff_,ff_,ff_,ff_,ff_] rfl rfl (by kernel_rfl) (fun _ _ _ h => h) (Or.inl ⟨by rfl, ?_⟩) ?_ ?_
   rotate_left
   ·intro w'
    go_simp
    with_reducible rfl
   rotate_left
   ·simp only [Act.put, List.setIfInBounds_toArray, List.set_cons_zero, List.set_cons_succ, i64_w, i32_w]
    rfl
   refine pure_ (i := 9) (N := some 43) (v := ?_) (a' := ?_) #[tt_,tt_,tt_,tt_,tt_,ff_,tt_,ff_,ff_,tt_,ff_,ff_,ff_] rfl rfl (by kernel_rfl) (fun _ _ _ h => h) (Or.inl ⟨by rfl, ?_⟩) ?_ ?_
   rotate_left
   ·intro w'
    go_simp
    with_reducible rfl
   rotate_left
   ·simp only [Act.put, List.setIfInBounds_toArray, List.set_cons_zero, List.set_cons_succ, i64_w, i32_w]
    rfl
   refine pure_ (i := 10) (N := some 44) (v := ?_) (a' := ?_) #[tt_,tt_,tt_,tt_,tt_,ff_,tt_,ff_,ff_,tt_,tt_,ff_,ff_] rfl rfl (by kernel_rfl) (fun _ _ _ h => h) (Or.inl ⟨by rfl, ?_⟩) ?_ ?_
   rotate_left
   ·intro w'
    go_simp
    with_reducible rfl
   rotate_left
   ·simp only [Act.put, List.setIfInBounds_toArray, List.set_cons_zero, List.set_cons_succ, i64_w, i32_w]
    rfl
   refine take_ (i := 5) (N := some 39) (v := ?_) (a' := ?_) #[tt_,tt_,tt_,tt_,tt_,tt_,tt_,ff_,ff_,tt_,tt_,ff_,ff_] rfl rfl (by kernel_rfl) (fun _ _ _ h => h) (Or.inl ⟨by rfl, ?_⟩) hHeld ?_ ?_
   rotate_left
   ·intro w' s0
    go_simp
    with_reducible rfl
   rotate_left
   ·simp only [Act.put, List.setIfInBounds_toArray, List.set_cons_zero, List.set_cons_succ, i64_w, i32_w]
    rfl
   refine one_ (i := 7) (N := some 41) #[tt_,tt_,tt_,tt_,tt_,tt_,tt_,tt_,ff_,tt_,tt_,ff_,ff_] rfl rfl (by kernel_rfl) (by decide) (fun K hK => ?_)
   refine value_ (w1 := ?_) (v := ?_) (by rfl) rfl ?_ ?_
   rotate_left 2
   ·go_simp
    constructor
    ·rfl
    ·rfl
   refine hK.out _ _ ((blk_cell (blk_alloc K8.out _) 4).trans rfl) (fun hHeld => ?_)
   clear hK K
   refine norm_ (a' := ?_) ?_ ?_
   rotate_left
   ·show Act.put _ (some 41) _ = _
    simp only [Act.put, List.setIfInBounds_toArray, List.set_cons_zero, List.set_cons_succ, i64_w, i32_w]
    rfl
   refine one_ (i := 8) (N := some 42) #[tt_,tt_,tt_,tt_,tt_,tt_,tt_,tt_,tt_,tt_,tt_,ff_,ff_] rfl rfl (by kernel_rfl) (by decide) (fun K hK => ?_)
   refine Kd.R_append_step intK (w0 := _) B (by rfl) (.tmp 39) (.tmp 41) 31 3 (.int .i64 0) 8 rfl Try.underlying31 infoI rfl (by decide) (by omega) (.slice Am ms.length cm) ms m [.int .i64 m] (fun _ => True) (fun _ => False) rfl rfl ?aP (fun _ hk => hk.elim) (fun _ _ => trivial) (M8.out) (Below.refl _ _) ?aS ?aL ?_
   (case aP => exact rfl)
   (case aS => exact G8.out)
   (case aL => have := HSM.out; omega)
   intro v7 w7 hR1 hB1 hg1 hat1
   rw [← HM.out] at hR1
   obtain ⟨A7, c7, rfl, hc7, hC7⟩ := Kd.R_reads hR1
   have M7 := Aside0.mk hR1
   have B7 := Aside0.mk hB1
   have K7 := Aside0.mk (blk_grown K8.out hg1 (Kd.R_ne M8.out K8.out (by decide)))
   have Y7 := Aside0.mk (Kd.R_over Y8.out M8.out (by decide) hg1)
   have L7 : Aside0 (Markeds .u32 4294967296 50 w7 B hs ms) := ⟨Markeds.grown L8.out M8.out (by decide) hg1⟩
   have R7 := Aside0.mk (blk_grown R8.out hg1 (Kd.R_ne M8.out R8.out (by decide)))
   have Z7 : Aside0 (KeepB (some ⟨r, 0, none⟩) w w7) := ⟨Z8.out.trans (KeepB.grown hg1 (fun k cs t hk ht => Kd.R_ne M8.out hk (by rcases ht with rfl | rfl <;> decide)))⟩
   clear hR1 hB1 hat1 hg1 hC7
   refine hK.out _ _ ((blk_cell K7.out 4).trans rfl) (fun hHeld => ?_)
   clear hK K
   refine norm_ (a' := ?_) ?_ ?_
   rotate_left
   ·show Act.put _ (some 42) _ = _
    simp only [Act.put, List.setIfInBounds_toArray, List.set_cons_zero, List.set_cons_succ, i64_w, i32_w]
    rfl
   refine pure_ (i := 11) (N := some 45) (v := ?_) (a' := ?_) #[tt_,tt_,tt_,tt_,tt_,tt_,tt_,tt_,tt_,tt_,tt_,tt_,ff_] rfl rfl (by kernel_rfl) (fun _ _ _ h => h) (Or.inl ⟨by rfl, ?_⟩) ?_ ?_
   rotate_left
   ·intro w'
    go_simp
    with_reducible rfl
   rotate_left
   ·simp only [Act.put, List.setIfInBounds_toArray, List.set_cons_zero, List.set_cons_succ, i64_w, i32_w]
    rfl
   refine last_ (i := 12) (N := none) #[tt_,tt_,tt_,tt_,tt_,tt_,tt_,tt_,tt_,tt_,tt_,tt_,tt_] rfl rfl (by kernel_rfl) (by decide) (fun K hK => ?_)
   have f1 := blk_frozen K7.out 4
   refine skip_ (w1 := ?_) (by rfl) rfl ?_ ?_
   rotate_left
   ·go_simp
    rfl
   refine hK.out _ _ ?_
   clear hK K
   refine done_ (by kernel_rfl) ?_
   try go_wp2
   go_end0
   rw [← HH.out, ← HM.out]
   refine ⟨rfl, ⟨_, _, (blk_set K7.out 4 _).trans rfl, Kd.R_set Y7.out K7.out (by decide) 4 _, Kd.R_set M7.out K7.out (by decide) 4 _, ?_⟩, (T8.out.trans (.of_below B7.out)).set 4 _, Z7.out.trans (KeepB.set K7.out (by decide) _ _)⟩
   have hmk : Marked .u32 4294967296 50 w7 B (some ⟨r, 0, none⟩, c, c) m := .inr ⟨r, cur', rfl, hrB, R7.out, by have := HZ.out; have := HCZ.out; simp only; omega, hcm, fun j hj => HI.out j hj⟩
   have hsn := Markeds.snoc L7.out hmk
   rw [← HH.out, ← HM.out] at hsn
   exact hsn.set K7.out (by decide) 4 _
end Go.Proofs.Ytodlgdpkadkjjaa.A
end
section
set_option linter.unusedVariables false
set_option linter.unusedSimpArgs false
namespace Go.Proofs.Ytodlgdpkadkjjaa.A
open Go.RowKit Go.Proofs.YtodlgdpkadkjjaaW.PrintWords Go.Proofs.YtodlgdpkadkjjaaW.PrintLast Go.Proofs.YtodlgdpkadkjjaaW.PrintMore

set_option maxHeartbeats 8000000 in
set_option maxRecDepth 100000 in
theorem nilSamples (g B : Nat) (m : Int) (hs : List Hd) (ms : List Int) (w : World) (hK : BkSamples w g B hs ms) (hgB : g < B) (hBs : B ≤ w.heap.size) (hlen : hs.length ≤ 1000000) :
    Calls Try.prog 56 #[.pointer (some ⟨g, 0, none⟩), .slice none 0 0, .int .i64 m] w fun e w' => e = .returned (.tuple #[]) ∧ BkSamples w' g B (hs ++ [(none, 0, 0)]) (ms ++ [m]) ∧ But B g w w' ∧ KeepB none w w' := by
 obtain ⟨v, vm, h1, h2, h3, h4⟩ := hK
 have HSM := Aside0.mk h4.1
 obtain ⟨As, cs, rfl, _, _⟩ := Kd.R_reads h2
 obtain ⟨Am, cm, rfl, _, _⟩ := Kd.R_reads h3
 have H1 := Aside0.mk h1
 have H2 := Aside0.mk h2
 have H3 := Aside0.mk h3
 have H4 := Aside0.mk h4
 clear h1 h2 h3 h4
 go_enter Try.func56, Try.ntmps56
 go_wp2
 go_loopw [6] (fun v wr => v = .int .i64 0 ∧ Aside0 (wr = w)) (fun v _ => 0)
 case atStart => exact ⟨rfl, ⟨rfl⟩⟩
 case round =>
     obtain ⟨rfl, hw⟩ := hrel
     have hw := hw.out
     subst hw
     have K1 := H1
     have Y1 := H2
     have M1 := H3
     have L1 := H4
     have T1 : Aside0 (But B g wr wr) := ⟨.refl _ _ _⟩
     have Z1 : Aside0 (KeepB none wr wr) := ⟨.refl _ _⟩
     have hg0 := (blk_cell K1.out 0).trans rfl
     have S1 : Aside0 (B ≤ wr.heap.size) := ⟨Nat.le_trans hBs T1.out.size⟩
     obtain ⟨hs', hh⟩ : ∃ hs' : List Hd, hs' = hs ++ [(none, 0, 0)] := ⟨_, rfl⟩
     obtain ⟨ms', hm'⟩ : ∃ ms' : List Int, ms' = ms ++ [m] := ⟨_, rfl⟩
     have HH := Aside0.mk hh
     have HM := Aside0.mk hm'
     clear hh hm'
     go_wp2_with ((with_reducible refine gate_builtin (b := .append) (xs := #[.tmp 28, .tmp 30]) rfl ?_); at_builtin; refine Kd.R_append_row Hd.v (none, 0, 0) (h1 := fun _ => rfl) (w0 := _) B rfl (.tmp 28) (.tmp 30) 27 23 (.slice none 0 0) 24 rfl Try.underlying27 infoH rfl (by omega) (.slice As hs.length cs) hs [(none, 0, 0)] _ 1 1 (fun _ => True) rfl rfl (fun _ _ => trivial) (Kd.R_alloc Y1.out _) (hdr_new [(none, 0, 0)] (blk_new _ _) rfl (by simp)) (Below.refl _ _) ?aS ?aL ?_; (case aS => exact ((Below.refl B wr).alloc S1.out _).size |> Nat.le_trans S1.out); (case aL => omega); intro v5 w5 hR1 hB1 hg1 hat1; rw [← HH.out] at hR1; obtain ⟨A5, c5, rfl, hc5, hC5⟩ := Kd.R_reads hR1; have Y5 := Aside0.mk hR1; have K5 := Aside0.mk (blk_grown (blk_alloc K1.out _) hg1 (Kd.R_ne Y1.out K1.out (by decide))); have B5 := Aside0.mk hB1; have M5 := Aside0.mk (Kd.R_over (Kd.R_alloc M1.out _) (Kd.R_alloc Y1.out _) (by decide) hg1); have L5 : Aside0 (Markeds .u32 4294967296 50 w5 B hs ms) := ⟨Markeds.grown (L1.out.alloc _) (Kd.R_alloc Y1.out _) (by decide) hg1⟩; have Q5 := Aside0.mk ((Below.refl B wr).alloc S1.out _ |>.trans hB1); have Z5 : Aside0 (KeepB none wr w5) := ⟨Z1.out.trans (KeepB.grown_alloc hg1 (fun k cs t hk ht => Kd.R_ne Y1.out hk (by rcases ht with rfl | rfl <;> decide)))⟩; clear hR1 hB1 hg1 hat1 hC5; have fg5 := blk_frozen K5.out 0; have hg5 := (blk_cell K5.out 0).trans rfl)
     obtain ⟨W, hW⟩ : ∃ W, W = w5.setCell ⟨g, 0, none⟩ (.slice A5 hs'.length c5) := ⟨_, rfl⟩
     have KW : Aside0 (W.heap[g]? = some (.cells #[.slice A5 hs'.length c5, .slice none 0 0, .slice none 0 0, .slice none 0 0, (.slice Am ms.length cm), .slice none 0 0, .slice none 0 0, .slice none 0 0] 34 (0, 0))) := ⟨by rw [hW]; exact (blk_set K5.out 0 _).trans rfl⟩
     have YW : Aside0 (Kd.R hdr 23 W B (fun _ => True) (.slice A5 hs'.length c5) hs') := ⟨by rw [hW]; exact Kd.R_set Y5.out K5.out (by decide) 0 _⟩
     have MW : Aside0 (Kd.R intK 3 W B (fun _ => True) (.slice Am ms.length cm) ms) := ⟨by rw [hW]; exact Kd.R_set M5.out K5.out (by decide) 0 _⟩
     have LW : Aside0 (Markeds .u32 4294967296 50 W B hs ms) := ⟨by rw [hW]; exact Markeds.set L5.out K5.out (by decide) 0 _⟩
     have TW : Aside0 (But B g wr W) := ⟨by rw [hW]; exact (T1.out.trans (.of_below Q5.out)).set 0 _⟩
     have ZW : Aside0 (KeepB none wr W) := ⟨by rw [hW]; exact Z5.out.trans (KeepB.set K5.out (by decide) _ _)⟩
     rw [← hW]
     have K8 := Aside0.mk (blk_drew KW.out)
     have Y8 := Aside0.mk (Kd.R_drew YW.out)
     have M8 := Aside0.mk (Kd.R_drew MW.out)
     have L8 : Aside0 (Markeds .u32 4294967296 50 W.drew B hs ms) := ⟨Markeds.below LW.out (pw_below_drewN (Below.refl _ W) 1)⟩
     have T8 : Aside0 (But B g wr W.drew) := ⟨TW.out.trans (.of_below (pw_below_drewN (Below.refl _ W) 1))⟩
     have G8 : Aside0 (B ≤ W.drew.heap.size) := ⟨Nat.le_trans hBs T8.out.size⟩
     have Z8 : Aside0 (KeepB none wr W.drew) := ⟨ZW.out.trans (KeepB.below (pw_below_drewN (Below.refl _ W) 1))⟩
     clear hW
     refine start_ (n := 13) (S := fun w' => w'.cell? ⟨g, 4, none⟩ = some (.slice Am ms.length cm)) (ds := [12]) #[ff_,ff_,ff_,ff_,ff_,ff_,ff_,ff_,ff_,ff_,ff_,ff_,ff_] (by kernel_rfl) rfl rfl ((blk_cell K8.out 4).trans rfl) (fun hHeld => ?_)
     refine pure_ (i := 0) (N := some 34) (v := ?_) (a' := ?_) #[tt_,ff_,ff_,ff_,ff_,ff_,ff_,ff_,ff_,ff_,ff_,ff_,ff_] rfl rfl (by kernel_rfl) (fun _ _ _ h => h) (Or.inl ⟨by rfl, ?_⟩) ?_ ?_
     rotate_left
     ·intro w'
      go_simp
      with_reducible rfl
     rotate_left
     ·simp only [Act.put, List.setIfInBounds_toArray, List.set_cons_zero, List.set_cons_succ, i64_w, i32_w]
      rfl
     refine pure_ (i := 1) (N := some 35) (v := ?_) (a' := ?_) #[tt_,tt_,ff_,ff_,ff_,ff_,ff_,ff_,ff_,ff_,ff_,ff_,ff_] rfl rfl (by kernel_rfl) (fun _ _ _ h => h) (Or.inl ⟨by rfl, ?_⟩) ?_ ?_
     rotate_left
     ·intro w'
      go_simp
      with_reducible rfl
     rotate_left
     ·simp only [Act.put, List.setIfInBounds_toArray, List.set_cons_zero, List.set_cons_succ, i64_w, i32_w]
      rfl
     refine pure_ (i := 2) (N := some 36) (v := ?_) (a' := ?_) #[tt_,tt_,tt_,ff_,ff_,ff_,ff_,ff_,ff_,ff_,ff_,ff_,ff_] rfl rfl (by kernel_rfl) (fun _ _ _ h => h) (Or.inl ⟨by rfl, ?_⟩) ?_ ?_
     rotate_left
     ·intro w'
      go_simp
      with_reducible rfl
     rotate_left
     ·simp only [Act.put, List.setIfInBounds_toArray, List.set_cons_zero, List.set_cons_succ, i64_w, i32_w]
      rfl
     refine pure_ (i := 3) (N := some 37) (v := ?_) (a' := ?_) #[tt_,tt_,tt_,tt_,ff_,ff_,ff_,ff_,ff_,ff_,ff_,ff_,ff_] rfl rfl (by kernel_rfl) (fun _ _ _ h => h) (Or.inl ⟨by rfl, ?_⟩) ?_ ?_
     rotate_left
     ·intro w'
      go_simp
      with_reducible rfl
     rotate_left
     ·simp only [Act.put, List.setIfInBounds_toArray, List.set_cons_zero, List.set_cons_succ, i64_w, i32_w]
      rfl
     refine pure_ (i := 4) (N := some 38) (v := ?_) (a' := ?_) #[tt_,tt_,tt_,tt_,tt_,ff_,ff_,ff_,ff_,ff_,ff_,ff_,ff_] rfl rfl (by kernel_rfl) (fun _ _ _ h => h) (Or.inl ⟨by rfl, ?_⟩) ?_ ?_
     rotate_left
     ·intro w'
      go_simp
      with_reducible rfl
     rotate_left
     ·simp only [Act.put, List.setIfInBounds_toArray, List.set_cons_zero, List.set_cons_succ, i64_w, i32_w]
      rfl
     refine pure_ (i := 6) (N := some 40) (v := ?_) (a' := ?_) #[tt_,tt_,tt_,tt_,tt_,ff_,tt_,ff_,ff_,ff_,ff_,ff_,ff_] rfl rfl (by kernel_rfl) (fun _ _ _ h => h) (Or.inl ⟨by rfl, ?_⟩) ?_ ?_
     rotate_left
     ·intro w'
      go_simp
      with_reducible rfl
     rotate_left
     ·simp only [Act.put, List.setIfInBounds_toArray, List.set_cons_zero, List.set_cons_succ, i64_w, i32_w]
      rfl
     refine pure_ (i := 9) (N := some 43) (v := ?_) (a' := ?_) #[tt_,tt_,tt_,tt_,tt_,ff_,tt_,ff_,ff_,tt_,ff_,ff_,ff_] rfl rfl (by kernel_rfl) (fun _ _ _ h => h) (Or.inl ⟨by rfl, ?_⟩) ?_ ?_
     rotate_left
     ·intro w'
      go_simp
      with_reducible rfl
     rotate_left
     ·simp only [Act.put, List.setIfInBounds_toArray, List.set_cons_zero, List.set_cons_succ, i64_w, i32_w]
      rfl
     refine pure_ (i := 10) (N := some 44) (v := ?_) (a' := ?_) #[tt_,tt_,tt_,tt_,tt_,ff_,tt_,ff_,ff_,tt_,tt_,ff_,ff_] rfl rfl (by kernel_rfl) (fun _ _ _ h => h) (Or.inl ⟨by rfl, ?_⟩) ?_ ?_
     rotate_left
     ·intro w'
      go_simp
      with_reducible rfl
     rotate_left
     ·simp only [Act.put, List.setIfInBounds_toArray, List.set_cons_zero, List.set_cons_succ, i64_w, i32_w]
      rfl
     refine take_ (i := 5) (N := some 39) (v := ?_) (a' := ?_) #[tt_,tt_,tt_,tt_,tt_,tt_,tt_,ff_,ff_,tt_,tt_,ff_,ff_] rfl rfl (by kernel_rfl) (fun _ _ _ h => h) (Or.inl ⟨by rfl, ?_⟩) hHeld ?_ ?_
     rotate_left
     ·intro w' s0
      go_simp
      with_reducible rfl
     rotate_left
     ·simp only [Act.put, List.setIfInBounds_toArray, List.set_cons_zero, List.set_cons_succ, i64_w, i32_w]
      rfl
     refine one_ (i := 7) (N := some 41) #[tt_,tt_,tt_,tt_,tt_,tt_,tt_,tt_,ff_,tt_,tt_,ff_,ff_] rfl rfl (by kernel_rfl) (by decide) (fun K hK => ?_)
     refine value_ (w1 := ?_) (v := ?_) (by rfl) rfl ?_ ?_
     rotate_left 2
     ·go_simp
      constructor
      ·rfl
      ·rfl
     refine hK.out _ _ ((blk_cell (blk_alloc K8.out _) 4).trans rfl) (fun hHeld => ?_)
     clear hK K
     refine norm_ (a' := ?_) ?_ ?_
     rotate_left
     ·show Act.put _ (some 41) _ = _
      simp only [Act.put, List.setIfInBounds_toArray, List.set_cons_zero, List.set_cons_succ, i64_w, i32_w]
      rfl
     refine one_ (i := 8) (N := some 42) #[tt_,tt_,tt_,tt_,tt_,tt_,tt_,tt_,tt_,tt_,tt_,ff_,ff_] rfl rfl (by kernel_rfl) (by decide) (fun K hK => ?_)
     refine Kd.R_append_step intK (w0 := _) B (by rfl) (.tmp 39) (.tmp 41) 31 3 (.int .i64 0) 8 rfl Try.underlying31 infoI rfl (by decide) (by omega) (.slice Am ms.length cm) ms m [.int .i64 m] (fun _ => True) (fun _ => False) rfl rfl ?aP (fun _ hk => hk.elim) (fun _ _ => trivial) (M8.out) (Below.refl _ _) ?aS ?aL ?_
     (case aP => exact rfl)
     (case aS => exact G8.out)
     (case aL => have := HSM.out; omega)
     intro v7 w7 hR1 hB1 hg1 hat1
     rw [← HM.out] at hR1
     obtain ⟨A7, c7, rfl, hc7, hC7⟩ := Kd.R_reads hR1
     have M7 := Aside0.mk hR1
     have B7 := Aside0.mk hB1
     have K7 := Aside0.mk (blk_grown K8.out hg1 (Kd.R_ne M8.out K8.out (by decide)))
     have Y7 := Aside0.mk (Kd.R_over Y8.out M8.out (by decide) hg1)
     have L7 : Aside0 (Markeds .u32 4294967296 50 w7 B hs ms) := ⟨Markeds.grown L8.out M8.out (by decide) hg1⟩
     have Z7 : Aside0 (KeepB none wr w7) := ⟨Z8.out.trans (KeepB.grown hg1 (fun k cs t hk ht => Kd.R_ne M8.out hk (by rcases ht with rfl | rfl <;> decide)))⟩
     clear hR1 hB1 hat1 hg1 hC7
     refine hK.out _ _ ((blk_cell K7.out 4).trans rfl) (fun hHeld => ?_)
     clear hK K
     refine norm_ (a' := ?_) ?_ ?_
     rotate_left
     ·show Act.put _ (some 42) _ = _
      simp only [Act.put, List.setIfInBounds_toArray, List.set_cons_zero, List.set_cons_succ, i64_w, i32_w]
      rfl
     refine pure_ (i := 11) (N := some 45) (v := ?_) (a' := ?_) #[tt_,tt_,tt_,tt_,tt_,tt_,tt_,tt_,tt_,tt_,tt_,tt_,ff_] rfl rfl (by kernel_rfl) (fun _ _ _ h => h) (Or.inl ⟨by rfl, ?_⟩) ?_ ?_
     rotate_left
     ·intro w'
      go_simp
      with_reducible rfl
     rotate_left
     ·simp only [Act.put, List.setIfInBounds_toArray, List.set_cons_zero, List.set_cons_succ, i64_w, i32_w]
      rfl
     refine last_ (i := 12) (N := none) #[tt_,tt_,tt_,tt_,tt_,tt_,tt_,tt_,tt_,tt_,tt_,tt_,tt_] rfl rfl (by kernel_rfl) (by decide) (fun K hK => ?_)
     have f1 := blk_frozen K7.out 4
     refine skip_ (w1 := ?_) (by rfl) rfl ?_ ?_
     rotate_left
     ·go_simp
      rfl
     refine hK.out _ _ ?_
     clear hK K
     refine done_ (by kernel_rfl) ?_
     try go_wp2
     go_end0
     rw [← HH.out, ← HM.out]
     refine ⟨rfl, ⟨_, _, (blk_set K7.out 4 _).trans rfl, Kd.R_set Y7.out K7.out (by decide) 4 _, Kd.R_set M7.out K7.out (by decide) 4 _, ?_⟩, (T8.out.trans (.of_below B7.out)).set 4 _, Z7.out.trans (KeepB.set K7.out (by decide) _ _)⟩
     have hmk : Marked .u32 4294967296 50 w7 B (none, 0, 0) m := .inl ⟨rfl, rfl⟩
     have hsn := Markeds.snoc L7.out hmk
     rw [← HH.out, ← HM.out] at hsn
     exact hsn.set K7.out (by decide) 4 _
end Go.Proofs.Ytodlgdpkadkjjaa.A
end
section
set_option linter.unusedVariables false
set_option linter.unusedSimpArgs false
namespace Go.Proofs.Ytodlgdpkadkjjaa.A
open Go.RowKit Go.Proofs.YtodlgdpkadkjjaaW.PrintWords Go.Proofs.YtodlgdpkadkjjaaW.PrintLast Go.Proofs.YtodlgdpkadkjjaaW.PrintMore

def Ns (w : World) (v : Value) (ms : List Int) : Prop := ∃ A c, v = .slice A ms.length c ∧ intK.C w A ms.length ms
theorem Ns.below {w w1 : World} {v : Value} {ms : List Int} (h : Ns w v ms) (hb : Below w.heap.size w w1) : Ns w1 v ms := by obtain ⟨A, c, h1, h2⟩ := h; exact ⟨A, c, h1, Kd.C_below h2 hb⟩
theorem Ns.of_R {e : TypeId} {w : World} {B : Nat} {ok : Nat → Prop} {v : Value} {ms : List Int} (h : Kd.R intK e w B ok v ms) : Ns w v ms := by
 obtain ⟨A, c, h1, h2, h3⟩ := Kd.R_reads h
 exact ⟨A, c, h1, h3⟩
theorem Ns.len {w : World} {v : Value} {ms : List Int} (h : Ns w v ms) : ∃ A c, v = .slice A ms.length c := by obtain ⟨A, c, h1, _⟩ := h; exact ⟨A, c, h1⟩
theorem Ns.at_ {w : World} {v : Value} {ms : List Int} (h : Ns w v ms) {i : Nat} (hi : i < ms.length) : ∃ ad c, v = .slice (some ad) ms.length c ∧ w.cell? (ad.add i) = some (.int .i64 ms[i]) := by
 obtain ⟨A, c, h1, h2⟩ := h
 obtain ⟨ad, cs, hA, hl, hK, hc⟩ := Kd.C_get h2 0 i (by omega) (by omega)
 subst hA
 refine ⟨ad, c, h1, ?_⟩
 have hK' : cs = [(.int .i64 ms[i])] := by
  have e : ms.getD ((i : Int)).toNat 0 = ms[i] := by simp [List.getElem?_eq_getElem hi]
  rw [e] at hK
  exact hK
 have := hc 0 _ (by rw [hK']; rfl)
 simpa [intK, Kd.scalar] using this
theorem Markeds.nil (k : IntKind) (M : Int) (e : TypeId) (w : World) (B : Nat) : Markeds k M e w B [] [] := ⟨rfl, fun i h => by simp at h⟩
theorem Marked.cells {k : IntKind} {M : Int} {e : TypeId} {w : World} {B : Nat} {h : Hd} {m : Int} (H : Marked k M e w B h m) : h.2.1 ≤ 9223372036854775807 ∧ ∀ j, j < h.2.1 → ∃ r, h.1 = some ⟨r, 0, none⟩ ∧ w.cell? ⟨r, j, none⟩ = some (.int k (mkA m j % M)) := by
 rcases H with ⟨_, h2⟩ | ⟨r, cur, h1, hb, h2, h3, h4, h5⟩
 ·exact ⟨by omega, fun j hj => by omega⟩
 ·exact ⟨h4, fun j hj => ⟨r, h1, by rw [blk_cell h2 j]; exact h5 j hj⟩⟩
set_option maxHeartbeats 8000000 in
set_option maxRecDepth 100000 in
theorem bookHold (g B : Nat) (hs : List Hd) (ms : List Int) (w : World) (hR : BkSamples w g B hs ms) : Calls Try.prog 21 #[.pointer (some ⟨g, 0, none⟩)] w fun e w' => e = .returned (.bool true) ∧ Below w.heap.size w w' := by
 obtain ⟨v0, m0, h1, h2', h4', h6⟩ := hR
 have h2 := Hs.of_R h2'
 have h4 := Ns.of_R h4'
 have HG := Aside0.mk h1
 have H0 := Aside0.mk h2
 have N0 := Aside0.mk h4
 have S0 := Aside0.mk h6
 have l0 := h2.bound
 obtain ⟨A0, c0, rfl⟩ := h2.len
 obtain ⟨A2, c2, rfl⟩ := h4.len
 clear h1 h2 h4 h6 h2' h4'
 go_enter Try.func21, Try.ntmps21
 go_wp2
 go_loopw [3] (fun v wr => ∃ (n : Nat), n ≤ hs.length ∧ v = .int .i64 n ∧ Aside0 (Below w.heap.size w wr)) (fun v _ => hs.length - (intOf v).toNat)
 case atStart => exact ⟨0, by omega, rfl, ⟨Below.refl _ _⟩⟩
 case round =>
  obtain ⟨n, hn, rfl, HB⟩ := hrel
  have hg0 := (blk_cell (blk_below HG.out HB.out) 0).trans rfl
  have hg1 := (blk_cell (blk_below HG.out HB.out) 4).trans rfl
  by_cases hlt : n < hs.length
  ·have hlt' : n < ms.length := by have := S0.out.1; omega
   obtain ⟨ad, c, e1, hx⟩ := Hs.at_ (H0.out.below HB.out) hlt
   injection e1 with e1 _ e1'
   obtain ⟨ad', c', e2, hy⟩ := Ns.at_ (N0.out.below HB.out) hlt'
   injection e2 with e2 _ e2'
   subst e1 e1' e2 e2'
   obtain ⟨lx, hM⟩ := Marked.cells ((Markeds.below S0.out HB.out).2 n hlt hlt')
   obtain ⟨⟨B1, n1, d1⟩, hh1⟩ : ∃ h : Hd, h = hs[n] := ⟨_, rfl⟩
   obtain ⟨m1, hh2⟩ : ∃ h : Int, h = ms[n] := ⟨_, rfl⟩
   rw [← hh1] at hx hM lx
   rw [← hh2] at hy hM
   simp only [Hd.v] at hx hM lx
   have HMK := Aside0.mk hM
   have HX := Aside0.mk hx
   have HY := Aside0.mk hy
   clear hh1 hh2 hx hy hM
   go_wp2
   repeat (go_quiet (fail); try go_wp2)
   go_loopw [4] (fun v wr2 => ∃ (i : Nat), i ≤ n1 ∧ v = .int .i64 i ∧ Aside0 (Below wr.heap.size wr wr2)) (fun v _ => n1 - (intOf v).toNat)
   case atStart => exact ⟨0, by omega, rfl, ⟨Below.refl _ _⟩⟩
   case round =>
    obtain ⟨i, hi, rfl, HB2⟩ := hrel
    have hg0 := pw_cell_below HB2.out hg0
    have hg1 := pw_cell_below HB2.out hg1
    have hx := pw_cell_below HB2.out HX.out
    have hy := pw_cell_below HB2.out HY.out
    by_cases hlt2 : i < n1
    ·obtain ⟨r, rfl, z0⟩ := HMK.out i hlt2
     have z1 := pw_cell_below HB2.out z0
     have HZ0 := Aside0.mk z0
     clear z0
     go_wp2
     go_quiet ((go_at_call 58; exact Calls.quiet_of_same ((mk_calls m1 i _).mono fun e w' h => ⟨h.1, h.2.symm⟩)))
     go_wp2
     go_roundw
     case measure => simp [intOf]; omega
     case rel => first | exact ⟨i + 1, by omega, by go_num, ⟨pw_below_drewN HB2.out _⟩⟩ | ((repeat apply Exists.intro); exact ⟨⟨i + 1, by omega, by go_num, ⟨pw_below_drewN HB2.out _⟩⟩, rfl⟩)
    ·obtain rfl : i = n1 := by omega
     have HB3 := Aside0.mk (HB.out.trans (HB2.out.mono HB.out.size))
     go_wp2
     repeat (go_quiet (fail); try go_wp2)
     go_roundw
     case measure => simp [intOf]; omega
     case rel => first | exact ⟨n + 1, by omega, by go_num, HB3⟩ | exact ⟨n + 1, by omega, by go_num, ⟨pw_below_drewN HB3.out _⟩⟩ | ((repeat apply Exists.intro); exact ⟨⟨n + 1, by omega, by go_num, HB3⟩, rfl⟩)
  ·obtain rfl : n = hs.length := by omega
   go_wp2
   repeat (go_quiet (fail); try go_wp2)
   go_loopw [5] (fun v wr => v = .int .i64 0 ∧ Aside0 (Below w.heap.size w wr)) (fun v _ => 0)
   case atStart => exact ⟨rfl, (by first | exact HB | exact ⟨pw_below_drewN HB.out _⟩)⟩
   case round =>
    obtain ⟨rfl, HB⟩ := hrel
    have hg0 := (blk_cell (blk_below HG.out HB.out) 1).trans rfl
    go_wp2
    repeat (go_quiet (fail); try go_wp2)
    go_loopw [7] (fun v wr => v = .int .i64 0 ∧ Aside0 (Below w.heap.size w wr)) (fun v _ => 0)
    case atStart => exact ⟨rfl, (by first | exact HB | exact ⟨pw_below_drewN HB.out _⟩)⟩
    case round =>
     obtain ⟨rfl, HB⟩ := hrel
     have hg0 := (blk_cell (blk_below HG.out HB.out) 2).trans rfl
     go_wp2
     repeat (go_quiet (fail); try go_wp2)
     go_loopw [9] (fun v wr => v = .int .i64 0 ∧ Aside0 (Below w.heap.size w wr)) (fun v _ => 0)
     case atStart => exact ⟨rfl, (by first | exact HB | exact ⟨pw_below_drewN HB.out _⟩)⟩
     case round =>
      obtain ⟨rfl, HB⟩ := hrel
      have hg0 := (blk_cell (blk_below HG.out HB.out) 3).trans rfl
      go_wp2
      repeat (go_quiet (fail); try go_wp2)
      go_ret
      exact ⟨rfl, HB.out⟩
end Go.Proofs.Ytodlgdpkadkjjaa.A
end
section
set_option linter.unusedVariables false
set_option linter.unusedSimpArgs false
namespace Go.Proofs.Ytodlgdpkadkjjaa.A
open Go.RowKit Go.Shelf Go.Proofs.YtodlgdpkadkjjaaW.PrintWords Go.Proofs.YtodlgdpkadkjjaaW.PrintLast Go.Proofs.YtodlgdpkadkjjaaW.PrintMore Go.Proofs.Ytodlgdpkadkjjaa.PPyramidLevels
open Ieee
theorem compare_self_nat (n : Nat) : compare n n = .eq := by
 show (if n < n then Ordering.lt else if n = n then .eq else .gt) = .eq
 rw [if_neg (Nat.lt_irrefl n), if_pos rfl]
theorem compare_self_int (n : Int) : compare n n = .eq := by
 show (if n < n then Ordering.lt else if n = n then .eq else .gt) = .eq
 rw [if_neg (Int.lt_irrefl n), if_pos rfl]
theorem order_self {B q : Nat} (h : Ok B (some q)) : FloatKind.f64.format.order q q = some .eq := by
 show double.order q q = some .eq
 unfold Format.order
 rcases h with h | ⟨a, h⟩ | ⟨a, n, ⟨r, h, hr, _⟩, _⟩
 ·exact absurd h (by simp)
 ·obtain rfl := Option.some.inj h
  rw [read_word double a double.infRung_lt, rd_inf double (by decide)]
  show some (compare a.toNat a.toNat) = _
  rw [show compare a.toNat a.toNat = .eq from compare_self_nat _]
 ·obtain rfl := Option.some.inj h
  obtain ⟨m, p, e, _⟩ := read_fin double hPd a hr
  rw [e]
  show some (compare (signed a m (p - min p p).toNat) (signed a m (p - min p p).toNat)) = _
  rw [show compare (signed a m (p - min p p).toNat) (signed a m (p - min p p).toNat) = .eq from compare_self_int _]
theorem order_nan {v : Nat} (h : Dv v none) : FloatKind.f64.format.order v v = none := by
 obtain ⟨a, t, h⟩ := h
 show double.order v v = none
 unfold Format.order
 rw [h]; rfl
/-- the reference's value of a sample -/
theorem rFloat_calls (s : Nat) (hs : s < 4294967296) (w : World) : Calls Try.prog 76 #[.int .u32 (s : Int)] w fun e w' => ∃ v, e = .returned (.float .f64 v) ∧ Below w.heap.size w w' ∧ Dv v (wv s) := by
 have hfrom := fun w => run_from s w
 obtain ⟨v, m, hr, hv⟩ := step_wv s hs w
 have hb : Below w.heap.size w (w.drewN m) := pw_below_drewN (Below.refl _ _) _
 have hpost : ∃ v', Ending.returned (.float .f64 v) = .returned (.float .f64 v') ∧ Below w.heap.size w (w.drewN m) ∧ Dv v' (wv s) := ⟨v, rfl, hb, hv⟩
 clear hv hb
 have HPO := Aside0.mk hpost
 clear hpost
 generalize w.drewN m = wm at *
 go_enter Try.func76, Try.ntmps76
 go_wp2_with (first | ((with_reducible refine gate_dst (N := 4) rfl ?_); refine same_event rfl (.float .f32 s) ?hr ?_; (case hr => first | (go_simp; done) | (go_simp; rfl))) | ((with_reducible refine gate_dst (N := 5) rfl ?_); refine Kd.event_run rfl (v := .float .f64 v) (w1 := wm) ?hr ?_; (case hr => first | (go_simp; done) | (go_simp; rfl))))
 go_ret
 exact HPO.out
/-- the reference's sample of a mean -/
theorem rSample_calls (l : List (Nat × Nat)) (t : Nat) (ht : t ≤ 4) (hl : ∀ t ∈ l, 1 ≤ t.1 ∧ t.2 < 2 ^ 32) (hw : wtot l = 2 ^ t) (v : Nat) (hv : Dv v (wmean l)) (w : World) : Calls Try.prog 77 #[.float .f64 v] w fun e w' => e = .returned (.int .u32 ((wbits l : Nat) : Int)) ∧ Below w.heap.size w w' := by
 have hok := wmean_ok l t ht hl hw
 cases ho : wmean l with
 | none =>
  rw [ho] at hv
  have h1 : FloatKind.f64.format.order v v = none := order_nan hv
  have hb : wbits l = 2143289344 := by unfold wbits; rw [ho]; rfl
  rw [hb]
  have hB := Aside0.mk (Below.refl w.heap.size w)
  clear hv hok ho hb
  go_enter Try.func77, Try.ntmps77
  go_wp2
  go_ret
  exact ⟨rfl, hB.out⟩
 | some q =>
  rw [ho] at hv hok
  obtain rfl : v = q := hv
  have h1 : FloatKind.f64.format.order v v = some .eq := order_self hok
  obtain ⟨u, m, hr, _, hu⟩ := step_back (v := v) (o := some v) rfl (fun q hq => by
   rcases wbits_ok l t ht hl hw with ⟨h9, _⟩ | ⟨q', h9, h8, _⟩
   ·rw [h9] at ho; cases ho
   ·rw [h9] at ho; cases ho; cases hq; exact ⟨_, h8⟩) w
  have hb : wbits l = u := by unfold wbits; rw [ho]; show (floatToFloatBits .f64 v .f32).getD made = u; rw [hu v rfl]; rfl
  rw [hb]
  have hbits := fun w => run_bits u w
  have HB := Aside0.mk (pw_below_drewN (Below.refl w.heap.size w) m)
  clear hu hok ho hb
  generalize w.drewN m = wm at *
  go_enter Try.func77, Try.ntmps77
  go_wp2_with (first | ((with_reducible refine gate_dst (N := 7) rfl ?_); refine Kd.event_run rfl (v := .float .f32 u) (w1 := wm) ?hr ?_; (case hr => first | (go_simp; done) | (go_simp; rfl))) | ((with_reducible refine gate_dst (N := 8) rfl ?_); refine same_event rfl (.int .u32 (u : Int)) ?hr ?_; (case hr => first | (go_simp; done) | (go_simp; rfl))))
  go_ret
  exact ⟨rfl, HB.out⟩
end Go.Proofs.Ytodlgdpkadkjjaa.A
end
section
set_option linter.unusedVariables false
set_option linter.unusedSimpArgs false
namespace Go.Proofs.Ytodlgdpkadkjjaa.A
open Go.RowKit Go.Shelf Go.Proofs.YtodlgdpkadkjjaaW.PrintWords Go.Proofs.YtodlgdpkadkjjaaW.PrintLast Go.Proofs.YtodlgdpkadkjjaaW.PrintMore Go.Proofs.Ytodlgdpkadkjjaa.PPyramidLevels
open Ieee
/-- a weight and its sample -/
def pr (ws ns : List Nat) (j : Nat) : Nat × Nat := (ws[j]?.getD 0, ns[j]?.getD 0)
def prs (ws ns : List Nat) (i : Nat) : List (Nat × Nat) := (List.range i).map (pr ws ns)
theorem prs_succ (ws ns : List Nat) (i : Nat) : prs ws ns (i + 1) = prs ws ns i ++ [pr ws ns i] := by unfold prs; rw [List.range_succ, List.map_append]; rfl
theorem cellI {k : IntKind} {w : World} {A : Option Addr} {n : Nat} {xs : List Nat} (h : (nat k).C w A n xs) (i : Nat) (hi : i < n) : ∃ ad, A = some ad ∧ w.cell? (ad.add i) = some (.int k ((xs[i]?.getD 0 : Nat) : Int)) := by
 obtain ⟨ad, hA, hx⟩ := C_nat h i hi
 unfold gt at hx
 rw [List.getD_eq_getElem?_getD] at hx
 exact ⟨ad, hA, hx⟩
set_option maxHeartbeats 4000000 in
set_option maxRecDepth 100000 in
theorem rWeigh_calls (ws ns : List Nat) (A B : Option Addr) (n c m c2 t : Nat) (w : World) (ha : (nat .u32).C w A n ns) (hb : (nat .i64).C w B m ws) (hmn : m ≤ n) (h0 : 0 < m) (hm : m ≤ 16) (ht : t ≤ 4) (hw : ∀ j : Nat, j < m → 1 ≤ ws[j]?.getD 0 ∧ ws[j]?.getD 0 ≤ 16) (hs : ∀ j : Nat, ns[j]?.getD 0 < 4294967296) (htot : wtot (prs ws ns m) = 2 ^ t) :
    Calls Try.prog 70 #[.slice A n c, .slice B m c2] w fun e w' => e = .returned (.int .u32 ((wbits (prs ws ns m) : Nat) : Int)) ∧ Below w.heap.size w w' := by
 have HA := Aside0.mk ha
 have HB := Aside0.mk hb
 have HW := Aside0.mk hw
 have HS := Aside0.mk hs
 have HM := Aside0.mk hm
 have HTO := Aside0.mk htot
 have HT := Aside0.mk ht
 have HP : Aside0 (∀ i, i ≤ m → ∀ u ∈ prs ws ns i, 1 ≤ u.1 ∧ u.1 ≤ 16 ∧ u.2 < 2 ^ 32) := ⟨fun i hi u hu => by
  obtain ⟨j, hj, rfl⟩ := List.mem_map.mp hu
  have hj' : j < i := List.mem_range.mp hj
  exact ⟨(hw j (by omega)).1, (hw j (by omega)).2, hs j⟩⟩
 clear ha hb hw hs htot ht
 go_enter Try.func70, Try.ntmps70
 go_wp2
 go_loopw [5, 6, 7] (fun sw aw iw wr => ∃ (i v S : Nat), i ≤ m ∧ iw = .int .i64 (i : Int) ∧ sw = .int .i64 (S : Int) ∧ aw = .float .f64 v ∧ Aside0 ((wst (prs ws ns i)).2 = S) ∧ Aside0 (Dv v (wst (prs ws ns i)).1) ∧ Aside0 (Below w.heap.size w wr)) (fun _ _ iw _ => m - (intOf iw).toNat)
 case atStart => exact ⟨0, 0, 0, Nat.zero_le _, rfl, rfl, rfl, ⟨rfl⟩, ⟨rfl⟩, ⟨Below.refl _ _⟩⟩
 case round =>
  obtain ⟨i, v, S, hi, rfl, rfl, rfl, HSU, HV, BI⟩ := hrel
  by_cases hlt : i < m
  ·have c1 : decide ((i : Int) < (m : Int)) = true := decide_eq_true (by omega)
   have i1 : ((i : Int) < (m : Int)) = True := eq_true (by omega)
   have i2 : ((i : Int) < (n : Int)) = True := eq_true (by omega)
   have hSb : S ≤ 256 := by
    have h1 := wst2_le (prs ws ns i) (fun u hu => (HP.out i (by omega) u hu).2.1)
    rw [HSU.out] at h1
    have h2 : (prs ws ns i).length = i := by simp [prs]
    rw [h2] at h1
    omega
   obtain ⟨adA, hA, hxa⟩ := cellI (Kd.C_below HA.out BI.out) i (by omega)
   subst hA
   obtain ⟨adB, hB, hxb⟩ := cellI (Kd.C_below HB.out BI.out) i hlt
   subst hB
   obtain ⟨a, ha⟩ : ∃ a, ns[i]?.getD 0 = a := ⟨_, rfl⟩
   obtain ⟨wn, hwn⟩ : ∃ wn, ws[i]?.getD 0 = wn := ⟨_, rfl⟩
   have hwb := HW.out i hlt
   rw [ha] at hxa
   rw [hwn] at hxb hwb
   have HAL : Aside0 (a < 4294967296) := ⟨by rw [← ha]; exact HS.out i⟩
   have HPR : Aside0 (pr ws ns i = (wn, a)) := ⟨by unfold pr; rw [ha, hwn]⟩
   have XA_ := Aside0.mk hxa
   have XB_ := Aside0.mk hxb
   have HLT := Aside0.mk hlt
   obtain ⟨S2, hS2⟩ : ∃ S2, S + wn = S2 := ⟨_, rfl⟩
   have hS2b : S2 ≤ 1000000 := by omega
   have HS2 := Aside0.mk hS2
   have e9 : wrap64 ((S : Int) + (wn : Int)) = (S2 : Int) := by rw [← Int.natCast_add, hS2]; exact w64 (by omega) (by omega)
   clear ha hwn hxa hxb hS2 hS2b hwb hSb
   go_upto_region 6 with (fail)
   have B30 := Aside0.mk (below_drew1 BI.out)
   have XA30 : Aside0 (wr.drew.cell? (adA.add i) = some (.int .u32 (a : Int))) := ⟨XA_.out⟩
   have XB30 : Aside0 (wr.drew.cell? (adB.add i) = some (.int .i64 (wn : Int))) := ⟨XB_.out⟩
   clear BI XA_ XB_
   refine start_ (n := 12) (S := fun w' => w'.cell? (adB.add i) = some (.int .i64 (wn : Int)) ∧ w'.cell? (adA.add i) = some (.int .u32 (a : Int))) (ds := []) #[ff_,ff_,ff_,ff_,ff_,ff_,ff_,ff_,ff_,ff_,ff_,ff_] (by kernel_rfl) rfl rfl ⟨XB30.out, XA30.out⟩ (fun hHeld => ?_)
   generalize wr.drew = w30 at *
   refine pure_ (i := 0) (N := some 15) (v := ?_) (a' := ?_) #[tt_,ff_,ff_,ff_,ff_,ff_,ff_,ff_,ff_,ff_,ff_,ff_] rfl rfl (by kernel_rfl) (fun _ _ _ h => h) (Or.inl ⟨by rfl, ?_⟩) ?_ ?_
   rotate_left
   ·intro w'
    go_simp
    with_reducible rfl
   rotate_left
   ·simp only [Act.put, List.setIfInBounds_toArray, List.set_cons_zero, List.set_cons_succ, i64_w, i32_w]
    rfl
   refine pure_ (i := 1) (N := some 16) (v := ?_) (a' := ?_) #[tt_,tt_,ff_,ff_,ff_,ff_,ff_,ff_,ff_,ff_,ff_,ff_] rfl rfl (by kernel_rfl) (fun _ _ _ h => h) (Or.inl ⟨by rfl, ?_⟩) ?_ ?_
   rotate_left
   ·intro w'
    go_simp
    with_reducible rfl
   rotate_left
   ·simp only [Act.put, List.setIfInBounds_toArray, List.set_cons_zero, List.set_cons_succ, i64_w, i32_w]
    rfl
   refine pure_ (i := 2) (N := some 17) (v := ?_) (a' := ?_) #[tt_,tt_,tt_,ff_,ff_,ff_,ff_,ff_,ff_,ff_,ff_,ff_] rfl rfl (by kernel_rfl) (fun _ _ _ h => h) (Or.inl ⟨by rfl, ?_⟩) ?_ ?_
   rotate_left
   ·intro w'
    go_simp
    with_reducible rfl
   rotate_left
   ·simp only [Act.put, List.setIfInBounds_toArray, List.set_cons_zero, List.set_cons_succ, i64_w, i32_w]
    rfl
   refine pure_ (i := 5) (N := some 20) (v := ?_) (a' := ?_) #[tt_,tt_,tt_,ff_,ff_,tt_,ff_,ff_,ff_,ff_,ff_,ff_] rfl rfl (by kernel_rfl) (fun _ _ _ h => h) (Or.inl ⟨by rfl, ?_⟩) ?_ ?_
   rotate_left
   ·intro w'
    go_simp
    with_reducible rfl
   rotate_left
   ·simp only [Act.put, List.setIfInBounds_toArray, List.set_cons_zero, List.set_cons_succ, i64_w, i32_w]
    rfl
   refine pure_ (i := 6) (N := some 21) (v := ?_) (a' := ?_) #[tt_,tt_,tt_,ff_,ff_,tt_,tt_,ff_,ff_,ff_,ff_,ff_] rfl rfl (by kernel_rfl) (fun _ _ _ h => h) (Or.inl ⟨by rfl, ?_⟩) ?_ ?_
   rotate_left
   ·intro w'
    go_simp
    with_reducible rfl
   rotate_left
   ·simp only [Act.put, List.setIfInBounds_toArray, List.set_cons_zero, List.set_cons_succ, i64_w, i32_w]
    rfl
   refine pure_ (i := 7) (N := some 22) (v := ?_) (a' := ?_) #[tt_,tt_,tt_,ff_,ff_,tt_,tt_,tt_,ff_,ff_,ff_,ff_] rfl rfl (by kernel_rfl) (fun _ _ _ h => h) (Or.inl ⟨by rfl, ?_⟩) ?_ ?_
   rotate_left
   ·intro w'
    go_simp
    with_reducible rfl
   rotate_left
   ·simp only [Act.put, List.setIfInBounds_toArray, List.set_cons_zero, List.set_cons_succ, i64_w, i32_w]
    rfl
   refine take_ (i := 3) (N := some 18) (v := ?_) (a' := ?_) #[tt_,tt_,tt_,tt_,ff_,tt_,tt_,tt_,ff_,ff_,ff_,ff_] rfl rfl (by kernel_rfl) (fun _ _ _ h => h) (Or.inl ⟨by rfl, ?_⟩) hHeld ?_ ?_
   rotate_left
   ·rintro w' ⟨s0, s1⟩
    go_simp
    with_reducible rfl
   rotate_left
   ·simp only [Act.put, List.setIfInBounds_toArray, List.set_cons_zero, List.set_cons_succ, i64_w, i32_w]
    rfl
   refine pure_ (i := 4) (N := some 19) (v := ?_) (a' := ?_) #[tt_,tt_,tt_,tt_,tt_,tt_,tt_,tt_,ff_,ff_,ff_,ff_] rfl rfl (by kernel_rfl) (fun _ _ _ h => h) (Or.inl ⟨by rfl, ?_⟩) ?_ ?_
   rotate_left
   ·intro w'
    go_simp
    with_reducible rfl
   rotate_left
   ·simp only [Act.put, List.setIfInBounds_toArray, List.set_cons_zero, List.set_cons_succ, i64_w, i32_w]
    rfl
   refine take_ (i := 8) (N := some 23) (v := ?_) (a' := ?_) #[tt_,tt_,tt_,tt_,tt_,tt_,tt_,tt_,tt_,ff_,ff_,ff_] rfl rfl (by kernel_rfl) (fun _ _ _ h => h) (Or.inl ⟨by rfl, ?_⟩) hHeld ?_ ?_
   rotate_left
   ·rintro w' ⟨s0, s1⟩
    go_simp
    with_reducible rfl
   rotate_left
   ·simp only [Act.put, List.setIfInBounds_toArray, List.set_cons_zero, List.set_cons_succ, i64_w, i32_w]
    rfl
   refine one_ (i := 9) (N := some 24) #[tt_,tt_,tt_,tt_,tt_,tt_,tt_,tt_,tt_,tt_,ff_,ff_] rfl rfl (by kernel_rfl) (by decide) (fun K hK => ?_)
   refine goes_ Try.func76 (by kernel_rfl) rfl #[.int .u32 (a : Int)] (by rfl) rfl rfl (by (try simp only [List.map_toArray, List.map_cons, List.map_nil]); rfl) ?_
   refine (rFloat_calls a HAL.out _).mono ?_
   rintro e w31 ⟨v2, rfl, hb, hv2⟩
   refine ⟨_, rfl, ?_⟩
   have B31 := Aside0.mk (below_step B30.out hb)
   have XA31 := Aside0.mk (pw_cell_below hb XA30.out)
   have XB31 := Aside0.mk (pw_cell_below hb XB30.out)
   have HV2 := Aside0.mk (hv2)
   clear hb hv2
   refine hK.out _ _ ⟨XB31.out, XA31.out⟩ (fun hHeld => ?_)
   clear hK K
   refine norm_ (a' := ?_) ?_ ?_
   rotate_left
   ·show Act.put _ (some 24) _ = _
    simp only [Act.put, List.setIfInBounds_toArray, List.set_cons_zero, List.set_cons_succ, i64_w, i32_w]
    rfl
   refine one_ (i := 10) (N := some 25) #[tt_,tt_,tt_,tt_,tt_,tt_,tt_,tt_,tt_,tt_,tt_,ff_] rfl rfl (by kernel_rfl) (by decide) (fun K hK => ?_)
   obtain ⟨v3, m3, hr3, hv3⟩ := step_op .mul (.inr (.inl rfl)) 57 (show Dv (floatOfInt .f64 (wn : Int)) (some (floatOfInt .f64 (wn : Int))) from rfl) HV2.out w31
   refine value_ (w1 := ?_) (v := ?_) (by rfl) rfl ?_ ?_
   rotate_left 2
   ·go_simp
    constructor
    ·rfl
    ·rfl
   have B32 := Aside0.mk (below_step B31.out (pw_below_drewN (Below.refl _ _) m3))
   have XA32 := Aside0.mk (pw_cell_below (pw_below_drewN (Below.refl _ _) m3) XA31.out)
   have XB32 := Aside0.mk (pw_cell_below (pw_below_drewN (Below.refl _ _) m3) XB31.out)
   have HV3 := Aside0.mk (hv3)
   clear hv3
   generalize w31.drewN m3 = w32 at *
   refine hK.out _ _ ⟨XB32.out, XA32.out⟩ (fun hHeld => ?_)
   clear hK K
   refine norm_ (a' := ?_) ?_ ?_
   rotate_left
   ·show Act.put _ (some 25) _ = _
    simp only [Act.put, List.setIfInBounds_toArray, List.set_cons_zero, List.set_cons_succ, i64_w, i32_w]
    rfl
   refine pure_ (i := 11) (N := some 8) (v := ?_) (a' := ?_) #[tt_,tt_,tt_,tt_,tt_,tt_,tt_,tt_,tt_,tt_,tt_,tt_] rfl rfl (by kernel_rfl) (fun _ _ _ h => h) (Or.inl ⟨by rfl, ?_⟩) ?_ ?_
   rotate_left
   ·intro w'
    go_simp
    with_reducible rfl
   rotate_left
   ·simp only [Act.put, List.setIfInBounds_toArray, List.set_cons_zero, List.set_cons_succ, i64_w, i32_w]
    rfl
   refine done_ (by kernel_rfl) ?_
   clear hHeld
   have hxb := XB32.out
   have HV3' : Aside0 (Dv v3 (wprod wn a)) := ⟨HV3.out⟩
   by_cases hi0 : i = 0
   ·have tz : ((i : Int) == 0) = true := by rw [beq_iff_eq]; omega
    have HNX : Aside0 (Dv v3 (wst (prs ws ns (i + 1))).1 ∧ (wst (prs ws ns (i + 1))).2 = S2) := ⟨by
     have e1 : (wst (prs ws ns i)).2 = 0 := by rw [hi0]; rfl
     rw [prs_succ, wst_snoc, HPR.out, wstep, if_pos e1, HSU.out]
     exact ⟨HV3'.out, HS2.out⟩⟩
    clear hi0
    go_wp2
    go_roundw
    case measure => simp [intOf]; have := HLT.out; clear e9; omega
    case rel => exact ⟨i + 1, v3, S2, HLT.out, by go_num, by rw [e9], rfl, ⟨HNX.out.2⟩, ⟨HNX.out.1⟩, B32⟩
   ·have tz : ((i : Int) == 0) = false := by rw [beq_eq_false_iff_ne]; omega
    obtain ⟨v4, m4, hr4, hv4⟩ := step_op .add (.inl rfl) 57 HV.out HV3'.out w32
    have HNX : Aside0 (Dv v4 (wst (prs ws ns (i + 1))).1 ∧ (wst (prs ws ns (i + 1))).2 = S2) := ⟨by
     have e1 : (wst (prs ws ns i)).2 ≠ 0 := by
      have hne : prs ws ns i ≠ [] := by intro h; have := congrArg List.length h; simp [prs] at this; exact hi0 this
      have h1 := (wst_eq (prs ws ns i) hne (fun u hu => (HP.out i (by have := HLT.out; omega) u hu).1)).2
      rw [h1]
      cases h2 : prs ws ns i with
      | nil => exact absurd h2 hne
      | cons u l =>
       have h3 := (HP.out i (by have := HLT.out; omega) u (by rw [h2]; exact List.mem_cons_self)).1
       show u.1 + wtot l ≠ 0
       omega
     rw [prs_succ, wst_snoc, HPR.out, wstep, if_neg e1, HSU.out]
     exact ⟨hv4, HS2.out⟩⟩
    have B33 := Aside0.mk (below_step B32.out (pw_below_drewN (Below.refl _ _) m4))
    have hxb2 := pw_cell_below (pw_below_drewN (Below.refl _ _) m4) hxb
    clear hv4 hi0
    go_wp2
    go_roundw
    case measure => simp [intOf]; have := HLT.out; clear e9; omega
    case rel => exact ⟨i + 1, v4, S2, HLT.out, by go_num, by rw [e9], rfl, ⟨HNX.out.2⟩, ⟨HNX.out.1⟩, B33⟩
  ·obtain rfl : m = i := by omega
   have c1 : decide ((m : Int) < (m : Int)) = false := decide_eq_false (by omega)
   have hne : prs ws ns m ≠ [] := by intro h; have := congrArg List.length h; simp [prs] at this; omega
   obtain ⟨k1, k2⟩ := wst_eq (prs ws ns m) hne (fun u hu => (HP.out m (Nat.le_refl _) u hu).1)
   have hS : wtot (prs ws ns m) = S := k2.symm.trans HSU.out
   obtain ⟨v5, m5, hr5, hv5⟩ := step_op .quo (.inr (.inr rfl)) 57 HV.out (show Dv (floatOfInt .f64 (S : Int)) (some (floatOfInt .f64 (S : Int))) from rfl) wr
   have hv6 : Dv v5 (wmean (prs ws ns m)) := by rw [← k1, hS]; exact hv5
   have HV6 := Aside0.mk hv6
   have HTP : Aside0 (∀ u ∈ prs ws ns m, 1 ≤ u.1 ∧ u.2 < 2 ^ 32) := ⟨fun u hu => ⟨(HP.out m (Nat.le_refl _) u hu).1, (HP.out m (Nat.le_refl _) u hu).2.2⟩⟩
   have BZ := Aside0.mk (below_step BI.out (pw_below_drewN (Below.refl _ _) m5))
   clear hne k1 k2 hS hv5 hv6
   generalize wr.drewN m5 = wz at *
   go_wp2_with (first | (go_at_call 77; refine (rSample_calls (prs ws ns m) t HT.out HTP.out HTO.out v5 HV6.out _).mono ?_; rintro e w9 ⟨rfl, hb⟩; have BE := Aside0.mk (below_step BZ.out hb); clear hb))
   go_ret
   exact ⟨rfl, BE.out⟩
end Go.Proofs.Ytodlgdpkadkjjaa.A
end
section
set_option linter.unusedVariables false
set_option linter.unusedSimpArgs false
namespace Go.Proofs.Ytodlgdpkadkjjaa.A
open Go.RowKit Go.Shelf Go.Proofs.YtodlgdpkadkjjaaW.PrintWords Go.Proofs.YtodlgdpkadkjjaaW.PrintLast Go.Proofs.YtodlgdpkadkjjaaW.PrintMore Go.Proofs.Ytodlgdpkadkjjaa.PPyramidLevels
theorem clamp_nat (n : Nat) (z : Int) (w : World) (h1 : 1 ≤ n) (h2 : n ≤ 1024) (h3 : -10000 ≤ z) (h4 : z ≤ 10000) : Calls Try.prog 69 #[.int .i64 (n : Int), .int .i64 z] w fun e w' => e = .returned (.int .i64 (((cl z n).toNat : Nat) : Int)) ∧ Below w.heap.size w w' := by
 refine halideref14_clamp.calls (n : Int) z _ w ?_
 unfold halideref14_clamp.f
 rw [show wrap64 ((n : Int) - 1) = (n : Int) - 1 from w64 (by omega) (by omega)]
 congr 1
 have := cl_range z (n : Int) (by omega)
 unfold cl mx mn at *
 split <;> split <;> (try split) <;> omega
end Go.Proofs.Ytodlgdpkadkjjaa.A
end
section
set_option linter.unusedVariables false
set_option linter.unusedSimpArgs false
namespace Go.Proofs.Ytodlgdpkadkjjaa.A
open Go.RowKit Go.Shelf Go.Proofs.YtodlgdpkadkjjaaW.PrintWords Go.Proofs.YtodlgdpkadkjjaaW.PrintLast Go.Proofs.YtodlgdpkadkjjaaW.PrintMore Go.Proofs.Ytodlgdpkadkjjaa.PPyramidLevels
theorem rHalf (n : Nat) (w : World) (h : n ≤ 1024) : Calls Try.prog 45 #[.int .i64 (n : Int)] w fun e w' => e = .returned (.int .i64 ((hf n : Nat) : Int)) ∧ Below w.heap.size w w' := by
 refine (halideref14_Half.calls (n : Int) ((hf n : Nat) : Int) w ?_).mono (fun e w' h => ⟨h.1, h.2.below⟩)
 unfold halideref14_Half.f
 have e1 : wrap64 ((n : Int) + 1) = (n : Int) + 1 := w64 (by omega) (by omega)
 have e2 : ((n : Int) + 1).tdiv 2 = ((hf n : Nat) : Int) := rfl
 have h3 : hf n < 1000000 := by unfold hf; omega
 rw [e1, e2, w64 (by omega) (by omega)]
/-- a line halved, so far -/
def hlv (ns : List Nat) (n k : Nat) : List Nat := (List.range k).map (fun i => smp reduceS ns 1 i n)
def tls (ns : List Nat) (n i j : Nat) : List Nat := (List.range j).map (fun q => gt ns (cl (2 * (i : Int) - 2 + (q : Nat)) n).toNat)
theorem hlv_succ (ns : List Nat) (n k : Nat) : hlv ns n (k + 1) = hlv ns n k ++ [smp reduceS ns 1 k n] := by unfold hlv; rw [List.range_succ, List.map_append]; rfl
theorem tls_succ (ns : List Nat) (n i j : Nat) : tls ns n i (j + 1) = tls ns n i j ++ [gt ns (cl (2 * (i : Int) - 2 + (j : Nat)) n).toNat] := by unfold tls; rw [List.range_succ, List.map_append]; rfl
theorem prs_tls (ns : List Nat) (n i : Nat) : wbits (prs [1, 4, 6, 4, 1] (tls ns n i 5) 5) = smp reduceS ns 1 i n := by
 unfold smp
 congr 1
 refine List.map_congr_left (fun j hj => ?_)
 have hj' : j < 5 := List.mem_range.mp hj
 unfold pr tapN tls
 rw [List.getElem?_map, List.getElem?_range hj', Nat.mul_one]
 show (([1, 4, 6, 4, 1] : List Nat)[j]?.getD 0, gt ns (cl (2 * (i : Int) - 2 + (j : Nat)) n).toNat) = (([1, 4, 6, 4, 1] : List Nat)[j]?.getD 0, ns[(cl (2 * (i : Int) - 2 + (j : Nat)) n).toNat]?.getD 0)
 unfold gt
 rw [List.getD_eq_getElem?_getD]
set_option maxHeartbeats 4000000 in
set_option maxRecDepth 100000 in
theorem halved_calls (ns : List Nat) (A : Option Addr) (n c : Nat) (w : World) (hx : PL w A n c ns) (h1 : 1 ≤ n ∧ n ≤ 1024) (hs : ∀ i, gt ns i < 4294967296) :
    Calls Try.prog 46 #[.slice A n c] w fun e w' => ∃ v, e = .returned v ∧ (nat .u32).R 50 w' w.heap.size (fun _ => True) v (hlv ns n (hf n)) ∧ Below w.heap.size w w' := by
 have HX := Aside0.mk hx
 have HNB := Aside0.mk h1
 have HS := Aside0.mk hs
 have hfb : hf n ≤ 512 := by unfold hf; omega
 clear hx hs h1
 go_enter Try.func46, Try.ntmps46
 go_wp2
 go_loopw [3, 4] (fun ov iw wr => ∃ (i : Nat), i ≤ hf n ∧ iw = .int .i64 (i : Int) ∧ Aside0 ((nat .u32).R 50 wr w.heap.size (fun _ => True) ov (hlv ns n i)) ∧ Aside0 (Below w.heap.size w wr)) (fun _ iw _ => hf n - (intOf iw).toNat)
 case atStart => exact ⟨0, Nat.zero_le _, rfl, ⟨Kd.R_nil _ _ _ _ _⟩, ⟨Below.refl _ _⟩⟩
 case round =>
  obtain ⟨i, hi, rfl, RI, BI⟩ := hrel
  by_cases hlt : i < hf n
  ·have c1 : decide ((i : Int) < ((hf n : Nat) : Int)) = true := decide_eq_true (by omega)
   have HLT := Aside0.mk hlt
   have c1n : decide (i < hf n) = true := decide_eq_true hlt
   go_wp2_with (first | (go_at_call 45; refine (rHalf n _ HNB.out.2).mono ?_; rintro e wk ⟨rfl, hb⟩; have RK := Aside0.mk (Kd.R_below RI.out hb); have BK := Aside0.mk (below_step BI.out hb); clear hb))
   have BW := Aside0.mk (Below.refl wk.heap.size wk)
   have hib : i ≤ 512 := by omega
   have e1 : wrap64 (2 * (i : Int)) = 2 * (i : Int) := w64 (by omega) (by omega)
   go_loopw [5, 6] (fun mv kv w5 => ∃ (j : Nat) (z : Int), j ≤ 5 ∧ z = (j : Int) - 2 ∧ kv = .int .i64 z ∧ Aside0 ((nat .u32).R 50 w5 wk.heap.size (fun _ => True) mv (tls ns n i j)) ∧ Aside0 (Below wk.heap.size wk w5)) (fun _ kv _ => (3 - intOf kv).toNat)
   case atStart => exact ⟨0, -2, by omega, by omega, rfl, ⟨Kd.R_nil _ _ _ _ _⟩, BW⟩
   case round =>
    obtain ⟨j, z, hj, hz, rfl, RM, BM⟩ := hrel
    have HZ := Aside0.mk hz
    by_cases hz2 : z ≤ 2
    ·have c2 : decide (z ≤ 2) = true := decide_eq_true hz2
     obtain ⟨y, hy⟩ : ∃ y : Int, 2 * (i : Int) + z = y := ⟨_, rfl⟩
     have hyb : -10000 ≤ y ∧ y ≤ 10000 := by omega
     have hzb : -2 ≤ z := by omega
     have e2 : wrap64 (2 * (i : Int) + z) = y := by rw [hy]; exact w64 (by omega) (by omega)
     have e3 : wrap64 (z + 1) = z + 1 := w64 (by omega) (by omega)
     obtain ⟨q, hq⟩ : ∃ q, (cl y n).toNat = q := ⟨_, rfl⟩
     have hqn : q < n := by have := cl_range y (n : Int) (by have := HNB.out.1; clear e1 e2 e3; omega); clear e1 e2 e3; omega
     obtain ⟨ad, hA, hxq⟩ := C_nat (Kd.C_below HX.out.1 (below_step BK.out BM.out)) q hqn
     subst hA
     obtain ⟨a, ha⟩ : ∃ a, gt ns q = a := ⟨_, rfl⟩
     rw [ha] at hxq
     have i1 : ((q : Int) < (n : Int)) = True := eq_true (Int.ofNat_lt.mpr hqn)
     have ey : 2 * (i : Int) - 2 + ((j : Nat) : Int) = y := by clear e1 e2 e3; omega
     have HSU : Aside0 (tls ns n i j ++ [a] = tls ns n i (j + 1)) := ⟨by rw [tls_succ, ey, hq, ha]⟩
     clear ey
     have HLM : Aside0 (((tls ns n i j).length + 1) * 4 ≤ 140737488355328) := ⟨by simp [tls]; clear e1 e2 e3; omega⟩
     have HY : Aside0 ((-10000 ≤ y ∧ y ≤ 10000) ∧ (cl y n).toNat = q) := ⟨hyb, hq⟩
     have HJ : Aside0 (j + 1 ≤ 5 ∧ z + 1 = ((j + 1 : Nat) : Int) - 2) := ⟨by clear e1 e2 e3; omega⟩
     clear hy hyb hq hqn ha hz hzb
     go_wp2_with (first | (go_at_call 69; refine (clamp_nat n y _ HNB.out.1 HNB.out.2 HY.out.1.1 HY.out.1.2).mono ?_; rw [HY.out.2]; rintro e w7 ⟨rfl, hb⟩; have R7 := Aside0.mk (Kd.R_below RM.out hb); have B7 := Aside0.mk (below_step BM.out hb); have hx7 := pw_cell_below hb hxq; clear hb) | ((with_reducible refine gate_builtin (b := .append) (xs := #[.tmp 18, .tmp 29]) rfl ?_); at_builtin; refine Kd.R_append (nat .u32) (w0 := wk) wk.heap.size rfl (.tmp 18) (.tmp 29) 23 50 (.int .u32 0) 4 rfl Try.underlying23 info50 rfl (by decide) (by omega) _ (tls ns n i j) a [.int .u32 (a : Int)] (fun _ => True) (fun _ => False) rfl rfl rfl (fun _ hk => hk.elim) (fun _ _ => trivial) R7.out B7.out B7.out.size HLM.out ?_; intro v6 w6 hR1 hB1 hg1 hat1; rw [HSU.out] at hR1; have R6 := Aside0.mk hR1; have B6 := Aside0.mk hB1; clear hR1 hB1 hg1 hat1))
     go_roundw
     case measure => rw [e3]; show (3 - (z + 1)).toNat < (3 - z).toNat; clear e1 e2 e3; omega
     case rel => exact ⟨j + 1, z + 1, HJ.out.1, HJ.out.2, by rw [e3], R6, B6⟩
    ·obtain rfl : j = 5 := by omega
     have c2 : decide (z ≤ 2) = false := decide_eq_false hz2
     obtain ⟨A5, n5, c5, hv5, hL5⟩ := PL.of RM.out
     have hn5 : n5 = 5 := hL5.2.2.symm.trans (by simp [tls])
     subst hn5
     subst hv5
     have L5 := Aside0.mk hL5
     have HWS : Aside0 (∀ j : Nat, j < 5 → 1 ≤ ([1, 4, 6, 4, 1] : List Nat)[j]?.getD 0 ∧ ([1, 4, 6, 4, 1] : List Nat)[j]?.getD 0 ≤ 16) := ⟨by intro j hj; clear e1; rcases j with _ | _ | _ | _ | _ | j <;> first | exact ⟨by decide, by decide⟩ | omega⟩
     have HSS : Aside0 (∀ j : Nat, (tls ns n i 5)[j]?.getD 0 < 4294967296) := ⟨fun j => by
      by_cases h : j < 5
      ·unfold tls
       rw [List.getElem?_map, List.getElem?_range h]
       exact HS.out _
      ·rw [List.getElem?_eq_none (by simp [tls]; clear e1; omega)]; decide⟩
     have HTT : Aside0 (wtot (prs [1, 4, 6, 4, 1] (tls ns n i 5) 5) = 2 ^ 4) := ⟨rfl⟩
     have HLO : Aside0 (((hlv ns n i).length + 1) * 4 ≤ 140737488355328) := ⟨by simp [hlv]; clear e1; omega⟩
     clear hL5 hz hz2
     go_wp2_with (first | (go_at_call 70; refine (rWeigh_calls [1, 4, 6, 4, 1] (tls ns n i 5) A5 (some ⟨wr.heap.size, 0, none⟩) 5 c5 5 5 4 _ (L5.out.below (below_alloc (Below.refl _ _) _)).1 (C_new [1, 4, 6, 4, 1] (blk_new _ _) rfl (by decide)) (by decide) (by decide) (by decide) (by decide) HWS.out HSS.out HTT.out).mono ?_; rw [prs_tls]; rintro e w8 ⟨rfl, hb⟩; have B8 := Aside0.mk (below_step BM.out (below_step (below_alloc (Below.refl _ _) _) hb)); have RO := Aside0.mk (Kd.R_below RK.out B8.out); have BO := Aside0.mk (below_step BK.out B8.out); clear hb) | ((with_reducible refine gate_builtin (b := .append) (xs := #[.tmp 31, .tmp 35]) rfl ?_); at_builtin; refine Kd.R_append (nat .u32) (w0 := w) w.heap.size rfl (.tmp 31) (.tmp 35) 23 50 (.int .u32 0) 4 rfl Try.underlying23 info50 rfl (by decide) (by omega) _ (hlv ns n i) (smp reduceS ns 1 i n) [.int .u32 ((smp reduceS ns 1 i n : Nat) : Int)] (fun _ => True) (fun _ => False) rfl rfl rfl (fun _ hk => hk.elim) (fun _ _ => trivial) RO.out BO.out BO.out.size HLO.out ?_; intro v9 w9 hR1 hB1 hg1 hat1; rw [← hlv_succ] at hR1; have R9 := Aside0.mk hR1; have B9 := Aside0.mk hB1; clear hR1 hB1 hg1 hat1))
     go_roundw
     case measure => simp [intOf]; have := HLT.out; clear e1; omega
     case rel => exact ⟨i + 1, HLT.out, by go_num, R9, B9⟩
  ·obtain rfl : hf n = i := by omega
   have c1 : decide (((hf n : Nat) : Int) < ((hf n : Nat) : Int)) = false := decide_eq_false (by omega)
   go_wp2_with (first | (go_at_call 45; refine (rHalf n _ HNB.out.2).mono ?_; rintro e wk ⟨rfl, hb⟩; have RK := Aside0.mk (Kd.R_below RI.out hb); have BK := Aside0.mk (below_step BI.out hb); clear hb))
   go_ret
   exact ⟨_, rfl, RK.out, BK.out⟩
end Go.Proofs.Ytodlgdpkadkjjaa.A
end
section
set_option linter.unusedVariables false
set_option linter.unusedSimpArgs false
namespace Go.Proofs.Ytodlgdpkadkjjaa.A
open Go.RowKit Go.Shelf Go.Proofs.YtodlgdpkadkjjaaW.PrintWords Go.Proofs.YtodlgdpkadkjjaaW.PrintLast Go.Proofs.YtodlgdpkadkjjaaW.PrintMore Go.Proofs.Ytodlgdpkadkjjaa.PPyramidLevels
/-- a line doubled, so far -/
def dbl (ns : List Nat) (n k : Nat) : List Nat := (List.range k).map (fun x => smp expandS ns 1 x n)
theorem dbl_succ (ns : List Nat) (n k : Nat) : dbl ns n (k + 1) = dbl ns n k ++ [smp expandS ns 1 k n] := by unfold dbl; rw [List.range_succ, List.map_append]; rfl
theorem lit2 {w : World} (O : Obj) (cs : Array Value) (e : TypeId) : ((w.alloc O).alloc (.cells cs e (0, 0))).heap[w.heap.size + 1]? = some (.cells cs e (0, 0)) := by
 have h := blk_new (w.alloc O) (.cells cs e (0, 0))
 have e2 : (w.alloc O).heap.size = w.heap.size + 1 := Array.size_push ..
 rw [e2] at h
 exact h
theorem cl_in {x n : Nat} (h : x < n) : (cl (x : Int) n).toNat = x := by unfold cl; split <;> split <;> omega
theorem tap_at (wsN ns : List Nat) (f m : Int) (j : Nat) : tapN wsN ns 1 f m j = (wsN[j]?.getD 0, gt ns (cl (f + (j : Nat)) m).toNat) := by unfold tapN gt; rw [Nat.mul_one, List.getD_eq_getElem?_getD]
theorem smp_even {ns : List Nat} {n i x2 a b d : Nat} {y0 y2 : Int} (hx : i / 2 = x2) (hr : i % 2 = 0) (e0 : (x2 : Int) - 1 = y0) (e2 : (x2 : Int) + 1 = y2) (hn : x2 < n) (ha : gt ns (cl y0 n).toNat = a) (hb : gt ns x2 = b) (hd : gt ns (cl y2 n).toNat = d) : wbits (prs [1, 6, 1] [a, b, d] 3) = smp expandS ns 1 i n := by
 unfold smp expandS
 simp only [hr, if_true]
 congr 1
 have t : tapL [1, 6, 1] ns 1 (((i / 2 : Nat) : Int) - 1) (n : Int) = [tapN [1, 6, 1] ns 1 (((i / 2 : Nat) : Int) - 1) n 0, tapN [1, 6, 1] ns 1 (((i / 2 : Nat) : Int) - 1) n 1, tapN [1, 6, 1] ns 1 (((i / 2 : Nat) : Int) - 1) n 2] := rfl
 rw [t, tap_at, tap_at, tap_at, hx, show (x2 : Int) - 1 + ((0 : Nat) : Int) = y0 by omega, show (x2 : Int) - 1 + ((1 : Nat) : Int) = (x2 : Int) by omega, show (x2 : Int) - 1 + ((2 : Nat) : Int) = y2 by omega, cl_in hn, ha, hb, hd]
 rfl
theorem smp_odd {ns : List Nat} {n i x2 b d : Nat} {y2 : Int} (hx : i / 2 = x2) (hr : ¬ i % 2 = 0) (e2 : (x2 : Int) + 1 = y2) (hn : x2 < n) (hb : gt ns x2 = b) (hd : gt ns (cl y2 n).toNat = d) : wbits (prs [1, 1] [b, d] 2) = smp expandS ns 1 i n := by
 unfold smp expandS
 simp only [hr, if_false]
 congr 1
 have t : tapL [1, 1] ns 1 ((i / 2 : Nat) : Int) (n : Int) = [tapN [1, 1] ns 1 ((i / 2 : Nat) : Int) n 0, tapN [1, 1] ns 1 ((i / 2 : Nat) : Int) n 1] := rfl
 rw [t, tap_at, tap_at, hx, show (x2 : Int) + ((0 : Nat) : Int) = (x2 : Int) by omega, show (x2 : Int) + ((1 : Nat) : Int) = y2 by omega, cl_in hn, hb, hd]
 rfl
set_option maxHeartbeats 4000000 in
set_option maxRecDepth 100000 in
theorem doubled_calls (ns : List Nat) (A : Option Addr) (n c m : Nat) (w : World) (hx : PL w A n c ns) (h1 : 1 ≤ n ∧ n ≤ 1024) (h2 : hf m = n) (h3 : m ≤ 1024) (hs : ∀ i, gt ns i < 4294967296) :
    Calls Try.prog 50 #[.slice A n c, .int .i64 (m : Int)] w fun e w' => ∃ v, e = .returned v ∧ (nat .u32).R 50 w' w.heap.size (fun _ => True) v (dbl ns n m) ∧ Below w.heap.size w w' := by
 have HX := Aside0.mk hx
 have HNB := Aside0.mk h1
 have HS := Aside0.mk hs
 have HF := Aside0.mk h2
 clear hx hs h1 h2
 go_enter Try.func50, Try.ntmps50
 go_wp2
 go_loopw [5, 6] (fun ov iw wr => ∃ (i : Nat), i ≤ m ∧ iw = .int .i64 (i : Int) ∧ Aside0 ((nat .u32).R 50 wr w.heap.size (fun _ => True) ov (dbl ns n i)) ∧ Aside0 (Below w.heap.size w wr)) (fun _ iw _ => m - (intOf iw).toNat)
 case atStart => exact ⟨0, Nat.zero_le _, rfl, ⟨Kd.R_nil _ _ _ _ _⟩, ⟨Below.refl _ _⟩⟩
 case round =>
  obtain ⟨i, hi, rfl, RI, BI⟩ := hrel
  by_cases hlt : i < m
  ·have c1 : decide ((i : Int) < (m : Int)) = true := decide_eq_true (by omega)
   have HLT := Aside0.mk hlt
   obtain ⟨x2, hx2⟩ : ∃ x2, i / 2 = x2 := ⟨_, rfl⟩
   have hxn : x2 < n := by have h9 := HF.out; unfold hf at h9; omega
   obtain ⟨y0, hy0⟩ : ∃ y : Int, (x2 : Int) - 1 = y := ⟨_, rfl⟩
   obtain ⟨y2, hy2⟩ : ∃ y : Int, (x2 : Int) + 1 = y := ⟨_, rfl⟩
   obtain ⟨q0, hq0⟩ : ∃ q, (cl y0 n).toNat = q := ⟨_, rfl⟩
   obtain ⟨q2, hq2⟩ : ∃ q, (cl y2 n).toNat = q := ⟨_, rfl⟩
   have HY0 : Aside0 ((-10000 ≤ y0 ∧ y0 ≤ 10000) ∧ (cl y0 n).toNat = q0) := ⟨by omega, hq0⟩
   have HY2 : Aside0 ((-10000 ≤ y2 ∧ y2 ≤ 10000) ∧ (cl y2 n).toNat = q2) := ⟨by omega, hq2⟩
   have hq0n : q0 < n := by rw [← hq0]; have h8 := HNB.out.1; have h9 := cl_range y0 (n : Int) (by omega); omega
   have hq2n : q2 < n := by rw [← hq2]; have h8 := HNB.out.1; have h9 := cl_range y2 (n : Int) (by omega); omega
   obtain ⟨ad, hA, k0⟩ := C_nat (Kd.C_below HX.out.1 BI.out) q0 hq0n
   subst hA
   obtain ⟨ad1, hA, k1⟩ := C_nat (Kd.C_below HX.out.1 BI.out) x2 hxn
   injection hA with hA
   subst hA
   obtain ⟨ad2, hA, k2⟩ := C_nat (Kd.C_below HX.out.1 BI.out) q2 hq2n
   injection hA with hA
   subst hA
   obtain ⟨a, ha⟩ : ∃ a, gt ns q0 = a := ⟨_, rfl⟩
   obtain ⟨b, hb⟩ : ∃ b, gt ns x2 = b := ⟨_, rfl⟩
   obtain ⟨d, hd⟩ : ∃ d, gt ns q2 = d := ⟨_, rfl⟩
   rw [ha] at k0
   rw [hb] at k1
   rw [hd] at k2
   have HAV : Aside0 (gt ns q0 = a ∧ gt ns x2 = b ∧ gt ns q2 = d) := ⟨⟨ha, hb, hd⟩⟩
   have HXV : Aside0 (i / 2 = x2 ∧ (x2 : Int) - 1 = y0 ∧ (x2 : Int) + 1 = y2) := ⟨⟨hx2, hy0, hy2⟩⟩
   have i1 : ((q0 : Int) < (n : Int)) = True := eq_true (Int.ofNat_lt.mpr hq0n)
   have i2 : ((x2 : Int) < (n : Int)) = True := eq_true (Int.ofNat_lt.mpr hxn)
   have i3 : ((q2 : Int) < (n : Int)) = True := eq_true (Int.ofNat_lt.mpr hq2n)
   have hxb : x2 ≤ 512 := by omega
   obtain ⟨r2, hr2⟩ : ∃ r, i % 2 = r := ⟨_, rfl⟩
   have hr3 : r2 < 2 := by omega
   have HR2 := Aside0.mk hr2
   have g1 : (i : Int).tdiv 2 = (x2 : Int) := by rw [← hx2]; rfl
   have g5 : (i : Int).tmod 2 = (r2 : Int) := by rw [← hr2]; rfl
   have g2 : wrap64 (x2 : Int) = (x2 : Int) := w64 (by omega) (by omega)
   have v0 : IntKind.i64.wrap (x2 : Int) = (x2 : Int) := by simp only [i64_w]; exact g2
   have v1 : IntKind.i64.wrap ((x2 : Int) - 1) = y0 := by simp only [i64_w]; rw [hy0]; exact w64 (by clear g2 v0; omega) (by clear g2 v0; omega)
   have v2 : IntKind.i64.wrap ((x2 : Int) + 1) = y2 := by simp only [i64_w]; rw [hy2]; exact w64 (by clear g2 v0 v1; omega) (by clear g2 v0 v1; omega)
   have K0 := Aside0.mk k0
   have K1 := Aside0.mk k1
   have K2 := Aside0.mk k2
   clear hx2 hy0 hy2 hq0 hq2 hq0n hq2n hxn ha hb hd k0 k1 k2 hr2 hxb
   go_upto_region 5 with (fail)
   have B30 : Aside0 (Below wr.heap.size wr wr.drew) := ⟨below_drew1 (Below.refl _ _)⟩
   have X0_30 : Aside0 (wr.drew.cell? (ad.add q0) = some (.int .u32 (a : Int))) := ⟨K0.out⟩
   have X1_30 : Aside0 (wr.drew.cell? (ad.add x2) = some (.int .u32 (b : Int))) := ⟨K1.out⟩
   have X2_30 : Aside0 (wr.drew.cell? (ad.add q2) = some (.int .u32 (d : Int))) := ⟨K2.out⟩
   refine start_ (n := 26) (S := fun w' => w'.cell? (ad.add q0) = some (.int .u32 (a : Int)) ∧ w'.cell? (ad.add x2) = some (.int .u32 (b : Int)) ∧ w'.cell? (ad.add q2) = some (.int .u32 (d : Int))) (ds := []) #[ff_,ff_,ff_,ff_,ff_,ff_,ff_,ff_,ff_,ff_,ff_,ff_,ff_,ff_,ff_,ff_,ff_,ff_,ff_,ff_,ff_,ff_,ff_,ff_,ff_,ff_] (by kernel_rfl) rfl rfl ⟨X0_30.out, X1_30.out, X2_30.out⟩ (fun hHeld => ?_)
   generalize wr.drew = w30 at *
   refine pure_ (i := 0) (N := some 15) (v := ?_) (a' := ?_) #[tt_,ff_,ff_,ff_,ff_,ff_,ff_,ff_,ff_,ff_,ff_,ff_,ff_,ff_,ff_,ff_,ff_,ff_,ff_,ff_,ff_,ff_,ff_,ff_,ff_,ff_] rfl rfl (by kernel_rfl) (fun _ _ _ h => h) (Or.inl ⟨by rfl, ?_⟩) ?_ ?_
   rotate_left
   ·intro w'
    go_simp
    with_reducible rfl
   rotate_left
   ·simp only [Act.put, List.setIfInBounds_toArray, List.set_cons_zero, List.set_cons_succ, i64_w, i32_w]
    rfl
   refine pure_ (i := 1) (N := some 16) (v := ?_) (a' := ?_) #[tt_,tt_,ff_,ff_,ff_,ff_,ff_,ff_,ff_,ff_,ff_,ff_,ff_,ff_,ff_,ff_,ff_,ff_,ff_,ff_,ff_,ff_,ff_,ff_,ff_,ff_] rfl rfl (by kernel_rfl) (fun _ _ _ h => h) (Or.inl ⟨by rfl, ?_⟩) ?_ ?_
   rotate_left
   ·intro w'
    go_simp
    with_reducible rfl
   rotate_left
   ·simp only [Act.put, List.setIfInBounds_toArray, List.set_cons_zero, List.set_cons_succ, i64_w, i32_w]
    rfl
   refine pure_ (i := 2) (N := some 17) (v := ?_) (a' := ?_) #[tt_,tt_,tt_,ff_,ff_,ff_,ff_,ff_,ff_,ff_,ff_,ff_,ff_,ff_,ff_,ff_,ff_,ff_,ff_,ff_,ff_,ff_,ff_,ff_,ff_,ff_] rfl rfl (by kernel_rfl) (fun _ _ _ h => h) (Or.inl ⟨by rfl, ?_⟩) ?_ ?_
   rotate_left
   ·intro w'
    go_simp
    with_reducible rfl
   rotate_left
   ·simp only [Act.put, List.setIfInBounds_toArray, List.set_cons_zero, List.set_cons_succ, i64_w, i32_w]
    rfl
   refine pure_ (i := 3) (N := some 18) (v := ?_) (a' := ?_) #[tt_,tt_,tt_,tt_,ff_,ff_,ff_,ff_,ff_,ff_,ff_,ff_,ff_,ff_,ff_,ff_,ff_,ff_,ff_,ff_,ff_,ff_,ff_,ff_,ff_,ff_] rfl rfl (by kernel_rfl) (fun _ _ _ h => h) (Or.inl ⟨by rfl, ?_⟩) ?_ ?_
   rotate_left
   ·intro w'
    go_simp
    with_reducible rfl
   rotate_left
   ·simp only [Act.put, List.setIfInBounds_toArray, List.set_cons_zero, List.set_cons_succ, i64_w, i32_w]
    rfl
   refine pure_ (i := 4) (N := some 19) (v := ?_) (a' := ?_) #[tt_,tt_,tt_,tt_,tt_,ff_,ff_,ff_,ff_,ff_,ff_,ff_,ff_,ff_,ff_,ff_,ff_,ff_,ff_,ff_,ff_,ff_,ff_,ff_,ff_,ff_] rfl rfl (by kernel_rfl) (fun _ _ _ h => h) (Or.inl ⟨by rfl, ?_⟩) ?_ ?_
   rotate_left
   ·intro w'
    go_simp
    with_reducible rfl
   rotate_left
   ·simp only [Act.put, List.setIfInBounds_toArray, List.set_cons_zero, List.set_cons_succ, i64_w, i32_w]
    rfl
   refine pure_ (i := 5) (N := some 20) (v := ?_) (a' := ?_) #[tt_,tt_,tt_,tt_,tt_,tt_,ff_,ff_,ff_,ff_,ff_,ff_,ff_,ff_,ff_,ff_,ff_,ff_,ff_,ff_,ff_,ff_,ff_,ff_,ff_,ff_] rfl rfl (by kernel_rfl) (fun _ _ _ h => h) (Or.inl ⟨by rfl, ?_⟩) ?_ ?_
   rotate_left
   ·intro w'
    go_simp
    with_reducible rfl
   rotate_left
   ·simp only [Act.put, List.setIfInBounds_toArray, List.set_cons_zero, List.set_cons_succ, i64_w, i32_w]
    rfl
   refine pure_ (i := 9) (N := some 24) (v := ?_) (a' := ?_) #[tt_,tt_,tt_,tt_,tt_,tt_,ff_,ff_,ff_,tt_,ff_,ff_,ff_,ff_,ff_,ff_,ff_,ff_,ff_,ff_,ff_,ff_,ff_,ff_,ff_,ff_] rfl rfl (by kernel_rfl) (fun _ _ _ h => h) (Or.inl ⟨by rfl, ?_⟩) ?_ ?_
   rotate_left
   ·intro w'
    go_simp
    with_reducible rfl
   rotate_left
   ·simp only [Act.put, List.setIfInBounds_toArray, List.set_cons_zero, List.set_cons_succ, i64_w, i32_w]
    rfl
   refine pure_ (i := 10) (N := some 25) (v := ?_) (a' := ?_) #[tt_,tt_,tt_,tt_,tt_,tt_,ff_,ff_,ff_,tt_,tt_,ff_,ff_,ff_,ff_,ff_,ff_,ff_,ff_,ff_,ff_,ff_,ff_,ff_,ff_,ff_] rfl rfl (by kernel_rfl) (fun _ _ _ h => h) (Or.inl ⟨by rfl, ?_⟩) ?_ ?_
   rotate_left
   ·intro w'
    go_simp
    with_reducible rfl
   rotate_left
   ·simp only [Act.put, List.setIfInBounds_toArray, List.set_cons_zero, List.set_cons_succ, i64_w, i32_w]
    rfl
   refine pure_ (i := 11) (N := some 26) (v := ?_) (a' := ?_) #[tt_,tt_,tt_,tt_,tt_,tt_,ff_,ff_,ff_,tt_,tt_,tt_,ff_,ff_,ff_,ff_,ff_,ff_,ff_,ff_,ff_,ff_,ff_,ff_,ff_,ff_] rfl rfl (by kernel_rfl) (fun _ _ _ h => h) (Or.inl ⟨by rfl, ?_⟩) ?_ ?_
   rotate_left
   ·intro w'
    go_simp
    with_reducible rfl
   rotate_left
   ·simp only [Act.put, List.setIfInBounds_toArray, List.set_cons_zero, List.set_cons_succ, i64_w, i32_w]
    rfl
   refine pure_ (i := 12) (N := some 27) (v := ?_) (a' := ?_) #[tt_,tt_,tt_,tt_,tt_,tt_,ff_,ff_,ff_,tt_,tt_,tt_,tt_,ff_,ff_,ff_,ff_,ff_,ff_,ff_,ff_,ff_,ff_,ff_,ff_,ff_] rfl rfl (by kernel_rfl) (fun _ _ _ h => h) (Or.inl ⟨by rfl, ?_⟩) ?_ ?_
   rotate_left
   ·intro w'
    go_simp
    with_reducible rfl
   rotate_left
   ·simp only [Act.put, List.setIfInBounds_toArray, List.set_cons_zero, List.set_cons_succ, i64_w, i32_w]
    rfl
   refine pure_ (i := 14) (N := some 29) (v := ?_) (a' := ?_) #[tt_,tt_,tt_,tt_,tt_,tt_,ff_,ff_,ff_,tt_,tt_,tt_,tt_,ff_,tt_,ff_,ff_,ff_,ff_,ff_,ff_,ff_,ff_,ff_,ff_,ff_] rfl rfl (by kernel_rfl) (fun _ _ _ h => h) (Or.inl ⟨by rfl, ?_⟩) ?_ ?_
   rotate_left
   ·intro w'
    go_simp
    with_reducible rfl
   rotate_left
   ·simp only [Act.put, List.setIfInBounds_toArray, List.set_cons_zero, List.set_cons_succ, i64_w, i32_w]
    rfl
   refine pure_ (i := 15) (N := some 30) (v := ?_) (a' := ?_) #[tt_,tt_,tt_,tt_,tt_,tt_,ff_,ff_,ff_,tt_,tt_,tt_,tt_,ff_,tt_,tt_,ff_,ff_,ff_,ff_,ff_,ff_,ff_,ff_,ff_,ff_] rfl rfl (by kernel_rfl) (fun _ _ _ h => h) (Or.inl ⟨by rfl, ?_⟩) ?_ ?_
   rotate_left
   ·intro w'
    go_simp
    with_reducible rfl
   rotate_left
   ·simp only [Act.put, List.setIfInBounds_toArray, List.set_cons_zero, List.set_cons_succ, i64_w, i32_w]
    rfl
   refine pure_ (i := 16) (N := some 31) (v := ?_) (a' := ?_) #[tt_,tt_,tt_,tt_,tt_,tt_,ff_,ff_,ff_,tt_,tt_,tt_,tt_,ff_,tt_,tt_,tt_,ff_,ff_,ff_,ff_,ff_,ff_,ff_,ff_,ff_] rfl rfl (by kernel_rfl) (fun _ _ _ h => h) (Or.inl ⟨by rfl, ?_⟩) ?_ ?_
   rotate_left
   ·intro w'
    go_simp
    with_reducible rfl
   rotate_left
   ·simp only [Act.put, List.setIfInBounds_toArray, List.set_cons_zero, List.set_cons_succ, i64_w, i32_w]
    rfl
   refine pure_ (i := 17) (N := some 32) (v := ?_) (a' := ?_) #[tt_,tt_,tt_,tt_,tt_,tt_,ff_,ff_,ff_,tt_,tt_,tt_,tt_,ff_,tt_,tt_,tt_,tt_,ff_,ff_,ff_,ff_,ff_,ff_,ff_,ff_] rfl rfl (by kernel_rfl) (fun _ _ _ h => h) (Or.inl ⟨by rfl, ?_⟩) ?_ ?_
   rotate_left
   ·intro w'
    go_simp
    with_reducible rfl
   rotate_left
   ·simp only [Act.put, List.setIfInBounds_toArray, List.set_cons_zero, List.set_cons_succ, i64_w, i32_w]
    rfl
   refine pure_ (i := 18) (N := some 33) (v := ?_) (a' := ?_) #[tt_,tt_,tt_,tt_,tt_,tt_,ff_,ff_,ff_,tt_,tt_,tt_,tt_,ff_,tt_,tt_,tt_,tt_,tt_,ff_,ff_,ff_,ff_,ff_,ff_,ff_] rfl rfl (by kernel_rfl) (fun _ _ _ h => h) (Or.inl ⟨by rfl, ?_⟩) ?_ ?_
   rotate_left
   ·intro w'
    go_simp
    with_reducible rfl
   rotate_left
   ·simp only [Act.put, List.setIfInBounds_toArray, List.set_cons_zero, List.set_cons_succ, i64_w, i32_w]
    rfl
   refine pure_ (i := 19) (N := some 34) (v := ?_) (a' := ?_) #[tt_,tt_,tt_,tt_,tt_,tt_,ff_,ff_,ff_,tt_,tt_,tt_,tt_,ff_,tt_,tt_,tt_,tt_,tt_,tt_,ff_,ff_,ff_,ff_,ff_,ff_] rfl rfl (by kernel_rfl) (fun _ _ _ h => h) (Or.inl ⟨by rfl, ?_⟩) ?_ ?_
   rotate_left
   ·intro w'
    go_simp
    with_reducible rfl
   rotate_left
   ·simp only [Act.put, List.setIfInBounds_toArray, List.set_cons_zero, List.set_cons_succ, i64_w, i32_w]
    rfl
   refine take_ (i := 13) (N := some 28) (v := ?_) (a' := ?_) #[tt_,tt_,tt_,tt_,tt_,tt_,ff_,ff_,ff_,tt_,tt_,tt_,tt_,tt_,tt_,tt_,tt_,tt_,tt_,tt_,ff_,ff_,ff_,ff_,ff_,ff_] rfl rfl (by kernel_rfl) (fun _ _ _ h => h) (Or.inl ⟨by rfl, ?_⟩) hHeld ?_ ?_
   rotate_left
   ·rintro w' ⟨s0, s1, s2⟩
    go_simp
    with_reducible rfl
   rotate_left
   ·simp only [Act.put, List.setIfInBounds_toArray, List.set_cons_zero, List.set_cons_succ, i64_w, i32_w]
    rfl
   refine one_ (i := 6) (N := some 21) #[tt_,tt_,tt_,tt_,tt_,tt_,tt_,ff_,ff_,tt_,tt_,tt_,tt_,tt_,tt_,tt_,tt_,tt_,tt_,tt_,ff_,ff_,ff_,ff_,ff_,ff_] rfl rfl (by kernel_rfl) (by decide) (fun K hK => ?_)
   refine goes_ Try.func69 (by kernel_rfl) rfl #[.int .i64 (n : Int), .int .i64 y0] (by rfl) rfl rfl (by (try simp only [List.map_toArray, List.map_cons, List.map_nil]); rfl) ?_
   refine (clamp_nat n y0 _ HNB.out.1 HNB.out.2 HY0.out.1.1 HY0.out.1.2).mono ?_
   rw [HY0.out.2]
   rintro e w31 ⟨rfl, hb⟩
   refine ⟨_, rfl, ?_⟩
   have B31 := Aside0.mk (below_step B30.out hb)
   have X0_31 := Aside0.mk (pw_cell_below hb X0_30.out)
   have X1_31 := Aside0.mk (pw_cell_below hb X1_30.out)
   have X2_31 := Aside0.mk (pw_cell_below hb X2_30.out)
   clear hb
   refine hK.out _ _ ⟨X0_31.out, X1_31.out, X2_31.out⟩ (fun hHeld => ?_)
   clear hK K
   refine norm_ (a' := ?_) ?_ ?_
   rotate_left
   ·show Act.put _ (some 21) _ = _
    simp only [Act.put, List.setIfInBounds_toArray, List.set_cons_zero, List.set_cons_succ, i64_w, i32_w]
    rfl
   refine pure_ (i := 7) (N := some 22) (v := ?_) (a' := ?_) #[tt_,tt_,tt_,tt_,tt_,tt_,tt_,tt_,ff_,tt_,tt_,tt_,tt_,tt_,tt_,tt_,tt_,tt_,tt_,tt_,ff_,ff_,ff_,ff_,ff_,ff_] rfl rfl (by kernel_rfl) (fun _ _ _ h => h) (Or.inl ⟨by rfl, ?_⟩) ?_ ?_
   rotate_left
   ·intro w'
    go_simp
    with_reducible rfl
   rotate_left
   ·simp only [Act.put, List.setIfInBounds_toArray, List.set_cons_zero, List.set_cons_succ, i64_w, i32_w]
    rfl
   refine take_ (i := 8) (N := some 23) (v := ?_) (a' := ?_) #[tt_,tt_,tt_,tt_,tt_,tt_,tt_,tt_,tt_,tt_,tt_,tt_,tt_,tt_,tt_,tt_,tt_,tt_,tt_,tt_,ff_,ff_,ff_,ff_,ff_,ff_] rfl rfl (by kernel_rfl) (fun _ _ _ h => h) (Or.inl ⟨by rfl, ?_⟩) hHeld ?_ ?_
   rotate_left
   ·rintro w' ⟨s0, s1, s2⟩
    go_simp
    with_reducible rfl
   rotate_left
   ·simp only [Act.put, List.setIfInBounds_toArray, List.set_cons_zero, List.set_cons_succ, i64_w, i32_w]
    rfl
   refine one_ (i := 20) (N := some 35) #[tt_,tt_,tt_,tt_,tt_,tt_,tt_,tt_,tt_,tt_,tt_,tt_,tt_,tt_,tt_,tt_,tt_,tt_,tt_,tt_,tt_,ff_,ff_,ff_,ff_,ff_] rfl rfl (by kernel_rfl) (by decide) (fun K hK => ?_)
   refine goes_ Try.func69 (by kernel_rfl) rfl #[.int .i64 (n : Int), .int .i64 y2] (by rfl) rfl rfl (by (try simp only [List.map_toArray, List.map_cons, List.map_nil]); rfl) ?_
   refine (clamp_nat n y2 _ HNB.out.1 HNB.out.2 HY2.out.1.1 HY2.out.1.2).mono ?_
   rw [HY2.out.2]
   rintro e w32 ⟨rfl, hb⟩
   refine ⟨_, rfl, ?_⟩
   have B32 := Aside0.mk (below_step B31.out hb)
   have X0_32 := Aside0.mk (pw_cell_below hb X0_31.out)
   have X1_32 := Aside0.mk (pw_cell_below hb X1_31.out)
   have X2_32 := Aside0.mk (pw_cell_below hb X2_31.out)
   clear hb
   refine hK.out _ _ ⟨X0_32.out, X1_32.out, X2_32.out⟩ (fun hHeld => ?_)
   clear hK K
   refine norm_ (a' := ?_) ?_ ?_
   rotate_left
   ·show Act.put _ (some 35) _ = _
    simp only [Act.put, List.setIfInBounds_toArray, List.set_cons_zero, List.set_cons_succ, i64_w, i32_w]
    rfl
   refine pure_ (i := 21) (N := some 36) (v := ?_) (a' := ?_) #[tt_,tt_,tt_,tt_,tt_,tt_,tt_,tt_,tt_,tt_,tt_,tt_,tt_,tt_,tt_,tt_,tt_,tt_,tt_,tt_,tt_,tt_,ff_,ff_,ff_,ff_] rfl rfl (by kernel_rfl) (fun _ _ _ h => h) (Or.inl ⟨by rfl, ?_⟩) ?_ ?_
   rotate_left
   ·intro w'
    go_simp
    with_reducible rfl
   rotate_left
   ·simp only [Act.put, List.setIfInBounds_toArray, List.set_cons_zero, List.set_cons_succ, i64_w, i32_w]
    rfl
   refine pure_ (i := 23) (N := some 7) (v := ?_) (a' := ?_) #[tt_,tt_,tt_,tt_,tt_,tt_,tt_,tt_,tt_,tt_,tt_,tt_,tt_,tt_,tt_,tt_,tt_,tt_,tt_,tt_,tt_,tt_,ff_,tt_,ff_,ff_] rfl rfl (by kernel_rfl) (fun _ _ _ h => h) (Or.inl ⟨by rfl, ?_⟩) ?_ ?_
   rotate_left
   ·intro w'
    go_simp
    with_reducible rfl
   rotate_left
   ·simp only [Act.put, List.setIfInBounds_toArray, List.set_cons_zero, List.set_cons_succ, i64_w, i32_w]
    rfl
   refine pure_ (i := 24) (N := some 8) (v := ?_) (a' := ?_) #[tt_,tt_,tt_,tt_,tt_,tt_,tt_,tt_,tt_,tt_,tt_,tt_,tt_,tt_,tt_,tt_,tt_,tt_,tt_,tt_,tt_,tt_,ff_,tt_,tt_,ff_] rfl rfl (by kernel_rfl) (fun _ _ _ h => h) (Or.inl ⟨by rfl, ?_⟩) ?_ ?_
   rotate_left
   ·intro w'
    go_simp
    with_reducible rfl
   rotate_left
   ·simp only [Act.put, List.setIfInBounds_toArray, List.set_cons_zero, List.set_cons_succ, i64_w, i32_w]
    rfl
   refine take_ (i := 22) (N := some 37) (v := ?_) (a' := ?_) #[tt_,tt_,tt_,tt_,tt_,tt_,tt_,tt_,tt_,tt_,tt_,tt_,tt_,tt_,tt_,tt_,tt_,tt_,tt_,tt_,tt_,tt_,tt_,tt_,tt_,ff_] rfl rfl (by kernel_rfl) (fun _ _ _ h => h) (Or.inl ⟨by rfl, ?_⟩) hHeld ?_ ?_
   rotate_left
   ·rintro w' ⟨s0, s1, s2⟩
    go_simp
    with_reducible rfl
   rotate_left
   ·simp only [Act.put, List.setIfInBounds_toArray, List.set_cons_zero, List.set_cons_succ, i64_w, i32_w]
    rfl
   refine pure_ (i := 25) (N := some 9) (v := ?_) (a' := ?_) #[tt_,tt_,tt_,tt_,tt_,tt_,tt_,tt_,tt_,tt_,tt_,tt_,tt_,tt_,tt_,tt_,tt_,tt_,tt_,tt_,tt_,tt_,tt_,tt_,tt_,tt_] rfl rfl (by kernel_rfl) (fun _ _ _ h => h) (Or.inl ⟨by rfl, ?_⟩) ?_ ?_
   rotate_left
   ·intro w'
    go_simp
    with_reducible rfl
   rotate_left
   ·simp only [Act.put, List.setIfInBounds_toArray, List.set_cons_zero, List.set_cons_succ, i64_w, i32_w]
    rfl
   refine done_ (by kernel_rfl) ?_
   clear hHeld
   by_cases hr0 : r2 = 0
   ·have tz : ((r2 : Int) == 0) = true := by rw [beq_iff_eq]; omega
    have HWS : Aside0 (∀ j : Nat, j < 3 → 1 ≤ ([1, 6, 1] : List Nat)[j]?.getD 0 ∧ ([1, 6, 1] : List Nat)[j]?.getD 0 ≤ 16) := ⟨by intro j hj; clear v0 v1 v2 g2; rcases j with _ | _ | _ | j <;> first | exact ⟨by decide, by decide⟩ | omega⟩
    have HSS : Aside0 (∀ j : Nat, ([a, b, d] : List Nat)[j]?.getD 0 < 4294967296) := ⟨by intro j; have ha := HS.out; (try rw [← HAV.out.1]); rw [← HAV.out.2.1, ← HAV.out.2.2]; rcases j with _ | _ | _ | j <;> first | exact ha _ | exact (by decide : (0 : Nat) < 4294967296)⟩
    have HTT : Aside0 (wtot (prs [1, 6, 1] [a, b, d] 3) = 2 ^ 3) := ⟨rfl⟩
    have HSM : Aside0 (wbits (prs [1, 6, 1] [a, b, d] 3) = smp expandS ns 1 i n) := ⟨smp_even HXV.out.1 (HR2.out.trans hr0) HXV.out.2.1 HXV.out.2.2 (by have h9 := HF.out; have h8 := HXV.out.1; have h7 := HLT.out; clear v0 v1 v2 g2; unfold hf at h9; omega) (by rw [HY0.out.2]; exact HAV.out.1) HAV.out.2.1 (by rw [HY2.out.2]; exact HAV.out.2.2)⟩
    have HLO : Aside0 (((dbl ns n i).length + 1) * 4 ≤ 140737488355328) := ⟨by simp [dbl]; clear v0 v1 v2 g2; omega⟩
    go_wp2_with (first | (go_at_call 70; refine (rWeigh_calls [1, 6, 1] [a, b, d] (some ⟨w32.heap.size, 0, none⟩) (some ⟨w32.heap.size + 1, 0, none⟩) 3 3 3 3 3 _ (Kd.C_below (C_new [a, b, d] (blk_new _ _) rfl (by simp)) (below_alloc (Below.refl _ _) _)) (C_new [1, 6, 1] (lit2 _ _ _) rfl (by decide)) (by decide) (by decide) (by decide) (by decide) HWS.out HSS.out HTT.out).mono ?_; rw [HSM.out]; rintro e w8 ⟨rfl, hb⟩; have B8 := Aside0.mk (below_step B32.out (below_step (below_alloc (below_alloc (Below.refl _ _) _) _) hb)); have RO := Aside0.mk (Kd.R_below RI.out B8.out); have BO := Aside0.mk (below_step BI.out B8.out); clear hb) | ((with_reducible refine gate_builtin (b := .append) (xs := #[.tmp 41, .tmp 48]) rfl ?_); at_builtin; refine Kd.R_append (nat .u32) (w0 := w) w.heap.size rfl (.tmp 41) (.tmp 48) 23 50 (.int .u32 0) 4 rfl Try.underlying23 info50 rfl (by decide) (by omega) _ (dbl ns n i) (smp expandS ns 1 i n) [.int .u32 ((smp expandS ns 1 i n : Nat) : Int)] (fun _ => True) (fun _ => False) rfl rfl rfl (fun _ hk => hk.elim) (fun _ _ => trivial) RO.out BO.out BO.out.size HLO.out ?_; intro v9 w9 hR1 hB1 hg1 hat1; rw [← dbl_succ] at hR1; have R9 := Aside0.mk hR1; have B9 := Aside0.mk hB1; clear hR1 hB1 hg1 hat1))
    go_roundw
    case measure => simp [intOf]; have := HLT.out; clear v0 v1 v2 g2; omega
    case rel => exact ⟨i + 1, HLT.out, by go_num, R9, B9⟩
   ·have tz : ((r2 : Int) == 0) = false := by rw [beq_eq_false_iff_ne]; omega
    have HWS : Aside0 (∀ j : Nat, j < 2 → 1 ≤ ([1, 1] : List Nat)[j]?.getD 0 ∧ ([1, 1] : List Nat)[j]?.getD 0 ≤ 16) := ⟨by intro j hj; clear v0 v1 v2 g2; rcases j with _ | _ | j <;> first | exact ⟨by decide, by decide⟩ | omega⟩
    have HSS : Aside0 (∀ j : Nat, ([b, d] : List Nat)[j]?.getD 0 < 4294967296) := ⟨by intro j; have ha := HS.out; (try rw [← HAV.out.1]); rw [← HAV.out.2.1, ← HAV.out.2.2]; rcases j with _ | _ | j <;> first | exact ha _ | exact (by decide : (0 : Nat) < 4294967296)⟩
    have HTT : Aside0 (wtot (prs [1, 1] [b, d] 2) = 2 ^ 1) := ⟨rfl⟩
    have HSM : Aside0 (wbits (prs [1, 1] [b, d] 2) = smp expandS ns 1 i n) := ⟨smp_odd HXV.out.1 (by rw [HR2.out]; exact hr0) HXV.out.2.2 (by have h9 := HF.out; have h8 := HXV.out.1; have h7 := HLT.out; clear v0 v1 v2 g2; unfold hf at h9; omega) HAV.out.2.1 (by rw [HY2.out.2]; exact HAV.out.2.2)⟩
    have HLO : Aside0 (((dbl ns n i).length + 1) * 4 ≤ 140737488355328) := ⟨by simp [dbl]; clear v0 v1 v2 g2; omega⟩
    go_wp2_with (first | (go_at_call 70; refine (rWeigh_calls [1, 1] [b, d] (some ⟨w32.heap.size, 0, none⟩) (some ⟨w32.heap.size + 1, 0, none⟩) 2 2 2 2 1 _ (Kd.C_below (C_new [b, d] (blk_new _ _) rfl (by simp)) (below_alloc (Below.refl _ _) _)) (C_new [1, 1] (lit2 _ _ _) rfl (by decide)) (by decide) (by decide) (by decide) (by decide) HWS.out HSS.out HTT.out).mono ?_; rw [HSM.out]; rintro e w8 ⟨rfl, hb⟩; have B8 := Aside0.mk (below_step B32.out (below_step (below_alloc (below_alloc (Below.refl _ _) _) _) hb)); have RO := Aside0.mk (Kd.R_below RI.out B8.out); have BO := Aside0.mk (below_step BI.out B8.out); clear hb) | ((with_reducible refine gate_builtin (b := .append) (xs := #[.tmp 50, .tmp 56]) rfl ?_); at_builtin; refine Kd.R_append (nat .u32) (w0 := w) w.heap.size rfl (.tmp 50) (.tmp 56) 23 50 (.int .u32 0) 4 rfl Try.underlying23 info50 rfl (by decide) (by omega) _ (dbl ns n i) (smp expandS ns 1 i n) [.int .u32 ((smp expandS ns 1 i n : Nat) : Int)] (fun _ => True) (fun _ => False) rfl rfl rfl (fun _ hk => hk.elim) (fun _ _ => trivial) RO.out BO.out BO.out.size HLO.out ?_; intro v9 w9 hR1 hB1 hg1 hat1; rw [← dbl_succ] at hR1; have R9 := Aside0.mk hR1; have B9 := Aside0.mk hB1; clear hR1 hB1 hg1 hat1))
    go_roundw
    case measure => simp [intOf]; have := HLT.out; clear v0 v1 v2 g2; omega
    case rel => exact ⟨i + 1, HLT.out, by go_num, R9, B9⟩
  ·obtain rfl : m = i := by omega
   have c1 : decide ((m : Int) < (m : Int)) = false := decide_eq_false (by omega)
   go_wp2
   go_ret
   exact ⟨_, rfl, RI.out, BI.out⟩
end Go.Proofs.Ytodlgdpkadkjjaa.A
end
section
set_option linter.unusedVariables false
set_option linter.unusedSimpArgs false
namespace Go.Proofs.Ytodlgdpkadkjjaa.A
open Go.RowKit Go.Shelf Go.Proofs.YtodlgdpkadkjjaaW.PrintWords Go.Proofs.YtodlgdpkadkjjaaW.PrintLast Go.Proofs.YtodlgdpkadkjjaaW.PrintMore Go.Proofs.Ytodlgdpkadkjjaa.PPyramidLevels
/-- a plane's row, and its column -/
def rowOf (p : List Nat) (W y : Nat) : List Nat := (List.range W).map (fun x => gt p (y * W + x))
def colOf (p : List Nat) (W H x : Nat) : List Nat := (List.range H).map (fun y => gt p (y * W + x))
theorem rowOf_length (p : List Nat) (W y : Nat) : (rowOf p W y).length = W := by simp [rowOf]
theorem colOf_length (p : List Nat) (W H x : Nat) : (colOf p W H x).length = H := by simp [colOf]
theorem map_lt {f : Nat → Nat} (n : Nat) (h : ∀ i, f i < 4294967296) : ∀ i, gt ((List.range n).map f) i < 4294967296 := by
 intro i
 unfold gt
 rw [List.getD_eq_getElem?_getD, List.getElem?_map]
 by_cases hi : i < n
 ·rw [List.getElem?_range hi]; exact h i
 ·rw [List.getElem?_eq_none (by simp; omega)]; exact (by decide : (0 : Nat) < 4294967296)
theorem At_f {W H x y : Nat} {p : List Nat} (hx : x < W) (hy : y < H) (hW : W ≤ 1024) (hH : H ≤ 1024) (hp : p.length = W * H) : halideref5_At.f (W : Int) (H : Int) (ints p) (x : Int) (y : Int) = some ((gt p (y * W + x) : Nat) : Int) := by
 have h1 : y * W ≤ 1024 * 1024 := Nat.mul_le_mul (by omega) hW
 have h2 : y * W + x < W * H := by
  have h3 : y * W + W ≤ H * W := by rw [← Nat.succ_mul]; exact Nat.mul_le_mul_right W hy
  rw [Nat.mul_comm W H]; omega
 have e1 : wrap64 ((y : Int) * (W : Int)) = ((y * W : Nat) : Int) := by rw [← Int.natCast_mul]; exact w64 (by omega) (by omega)
 have e2 : wrap64 (((y * W : Nat) : Int) + (x : Int)) = ((y * W + x : Nat) : Int) := by rw [← Int.natCast_add]; exact w64 (by omega) (by omega)
 unfold halideref5_At.f
 rw [e1, e2, if_pos (by omega), if_pos (by rw [ints_length, hp]; omega)]
 show some ((ints p).getD ((y * W + x : Nat) : Int).toNat 0) = _
 rw [Int.toNat_natCast, ints_getD]
theorem map_range_succ (F : Nat → Nat) (j : Nat) : ints ((List.range j).map F) ++ [((F j : Nat) : Int)] = ints ((List.range (j + 1)).map F) := by
 rw [List.range_succ, List.map_append, ints_append]; rfl
theorem line0_f {W H x : Nat} {p : List Nat} (hx : x < W) (hW : W ≤ 1024) (hH : H ≤ 1024) (hp : p.length = W * H) : ∀ d, d ≤ H → halideref14_line.l0 (d + 1) (x : Int) (ints ((List.range (H - d)).map (fun y => gt p (y * W + x)))) ((H - d : Nat) : Int) (W : Int) (H : Int) (ints p) = some (ints (colOf p W H x)) := by
 intro d
 induction d with
 | zero => intro _; unfold halideref14_line.l0; rw [if_neg (by omega)]; rfl
 | succ d ih =>
  intro hd
  obtain ⟨j, hj⟩ : ∃ j, H - (d + 1) = j := ⟨_, rfl⟩
  have hj2 : H - d = j + 1 := by omega
  rw [hj2] at ih
  have ih := ih (by omega)
  unfold halideref14_line.l0
  rw [hj, if_pos (by omega), At_f hx (by omega) hW hH hp]
  simp only [Option.bind_some]
  rw [if_pos (by rw [ints_length]; simp; omega), w64 (by omega) (by omega)]
  have e := map_range_succ (fun y => gt p (y * W + x)) j
  rw [e]
  exact ih
theorem line1_f {W H y : Nat} {p : List Nat} (hy : y < H) (hW : W ≤ 1024) (hH : H ≤ 1024) (hp : p.length = W * H) : ∀ d, d ≤ W → halideref14_line.l1 (d + 1) (y : Int) (ints ((List.range (W - d)).map (fun x => gt p (y * W + x)))) ((W - d : Nat) : Int) (W : Int) (H : Int) (ints p) = some (ints (rowOf p W y)) := by
 intro d
 induction d with
 | zero => intro _; unfold halideref14_line.l1; rw [if_neg (by omega)]; rfl
 | succ d ih =>
  intro hd
  obtain ⟨j, hj⟩ : ∃ j, W - (d + 1) = j := ⟨_, rfl⟩
  have hj2 : W - d = j + 1 := by omega
  rw [hj2] at ih
  have ih := ih (by omega)
  unfold halideref14_line.l1
  rw [hj, if_pos (by omega), At_f (by omega) hy hW hH hp]
  simp only [Option.bind_some]
  rw [if_pos (by rw [ints_length]; simp; omega), w64 (by omega) (by omega)]
  have e := map_range_succ (fun x => gt p (y * W + x)) j
  rw [e]
  exact ih
theorem rCol_calls {W H x n c : Nat} {p : List Nat} {A : Option Addr} {w : World} (h : PL w A n c p) (hx : x < W) (hW : W ≤ 1024) (hH : H ≤ 1024) (hp : p.length = W * H) :
    Calls Try.prog 47 #[.agg #[.int .i64 (W : Int), .int .i64 (H : Int), .slice A n c], .bool true, .int .i64 (x : Int)] w fun e w' => ∃ A' c', e = .returned (.slice A' H c') ∧ PL w' A' H c' (colOf p W H x) ∧ Below w.heap.size w w' := by
 have hl : (ints p).length = n := (ints_length p).trans h.2.2
 have hf := line0_f hx hW hH hp H (Nat.le_refl _)
 rw [Nat.sub_self] at hf
 have hk := halideref14_line.calls (H + 1) (W : Int) (H : Int) A c (ints p) true (x : Int) (ints (colOf p W H x)) w (by rw [hl]; exact C_ints h.1) (by rw [hl]; exact h.2.1) (by unfold halideref14_line.f; rw [if_pos rfl]; exact hf)
 rw [hl] at hk
 refine hk.mono ?_
 rintro e w' ⟨v, rfl, hR, hb⟩
 obtain ⟨A', n', c', rfl, hL⟩ := PL.of (R_nats hR)
 have e : n' = H := hL.2.2.symm.trans (colOf_length ..)
 subst e
 exact ⟨A', c', rfl, hL, hb⟩
theorem rRow_calls {W H y n c : Nat} {p : List Nat} {A : Option Addr} {w : World} (h : PL w A n c p) (hy : y < H) (hW : W ≤ 1024) (hH : H ≤ 1024) (hp : p.length = W * H) :
    Calls Try.prog 47 #[.agg #[.int .i64 (W : Int), .int .i64 (H : Int), .slice A n c], .bool false, .int .i64 (y : Int)] w fun e w' => ∃ A' c', e = .returned (.slice A' W c') ∧ PL w' A' W c' (rowOf p W y) ∧ Below w.heap.size w w' := by
 have hl : (ints p).length = n := (ints_length p).trans h.2.2
 have hf := line1_f hy hW hH hp W (Nat.le_refl _)
 rw [Nat.sub_self] at hf
 have hk := halideref14_line.calls (W + 1) (W : Int) (H : Int) A c (ints p) false (y : Int) (ints (rowOf p W y)) w (by rw [hl]; exact C_ints h.1) (by rw [hl]; exact h.2.1) (by unfold halideref14_line.f; rw [if_neg (by decide)]; exact hf)
 rw [hl] at hk
 refine hk.mono ?_
 rintro e w' ⟨v, rfl, hR, hb⟩
 obtain ⟨A', n', c', rfl, hL⟩ := PL.of (R_nats hR)
 have e : n' = W := hL.2.2.symm.trans (rowOf_length ..)
 subst e
 exact ⟨A', c', rfl, hL, hb⟩
theorem rBlank_calls {W H : Nat} (w : World) (h : W * H ≤ 65536) : Calls Try.prog 48 #[.int .i64 (W : Int), .int .i64 (H : Int)] w fun e w' => ∃ v, e = .returned (.agg #[.int .i64 (W : Int), .int .i64 (H : Int), v]) ∧ (nat .u32).R 50 w' w.heap.size (fun _ => True) v (List.replicate (W * H) 0) ∧ Below w.heap.size w w' := by
 have e1 : wrap64 ((W : Int) * (H : Int)) = ((W * H : Nat) : Int) := by rw [← Int.natCast_mul]; exact w64 (by omega) (by omega)
 refine (halideref5_Blank.calls (W : Int) (H : Int) (W : Int) (H : Int) (ints (List.replicate (W * H) 0)) w ?_).mono ?_
 ·unfold halideref5_Blank.f
  rw [e1, if_pos (by omega), Int.toNat_natCast, if_pos (by omega), ← ints_replicate]
  rfl
 ·rintro e w' ⟨v, rfl, hR, hb⟩
  exact ⟨v, rfl, R_nats hR, hb⟩
/-- a column, where it lies -/
theorem smp_col (S : Shape) (p : List Nat) (W H x i : Nat) (hH : 1 ≤ H) (hx : x < W) (hp : p.length = H * W) : smp S (colOf p W H x) 1 i H = smp S (p.drop x) W i H := by
 refine smp_ext S _ _ 1 W i H fun j hj => ?_
 have hc := cl_range (S.tf i + j) (H : Int) (by omega)
 have hz : (cl (S.tf i + (j : Nat)) H).toNat < H := by omega
 obtain ⟨z, hzz⟩ : ∃ z, (cl (S.tf i + (j : Nat)) H).toNat = z := ⟨_, rfl⟩
 rw [hzz] at hz ⊢
 rw [Nat.mul_one]
 unfold colOf gt
 rw [List.getElem?_map, List.getElem?_range hz, List.getElem?_drop, Option.map_some, Option.getD_some, List.getD_eq_getElem?_getD, Nat.add_comm]
theorem rowOf_eq (p : List Nat) (W y : Nat) (h : y * W + W ≤ p.length) : rowOf p W y = (p.drop (y * W)).take W := by
 apply List.ext_getElem?
 intro i
 unfold rowOf gt
 by_cases hi : i < W
 ·rw [List.getElem?_map, List.getElem?_range hi, List.getElem?_take, if_pos hi, List.getElem?_drop, Option.map_some, List.getD_eq_getElem?_getD, List.getElem?_eq_getElem (by omega)]
  rfl
 ·rw [List.getElem?_eq_none (by simp; omega), List.getElem?_eq_none (by simp; omega)]
theorem gridTo_row (F : Nat → Nat → Nat) (w y : Nat) : gridTo F w (y * w) ++ (List.range w).map (fun x => F x y) = gridTo F w ((y + 1) * w) := by
 have key : ∀ k, k ≤ w → gridTo F w (y * w) ++ (List.range k).map (fun x => F x y) = gridTo F w (y * w + k) := by
  intro k
  induction k with
  | zero => intro _; simp
  | succ k ih =>
   intro hk
   rw [List.range_succ, List.map_append, ← List.append_assoc, ih (by omega), ← Nat.add_assoc, gridTo_succ F hk]
   rfl
 rw [Nat.succ_mul]
 exact key w (Nat.le_refl _)
end Go.Proofs.Ytodlgdpkadkjjaa.A
end
section
set_option linter.unusedVariables false
set_option linter.unusedSimpArgs false
namespace Go.Proofs.Ytodlgdpkadkjjaa.A
open Go.RowKit Go.Shelf Go.Proofs.YtodlgdpkadkjjaaW.PrintWords Go.Proofs.YtodlgdpkadkjjaaW.PrintLast Go.Proofs.YtodlgdpkadkjjaaW.PrintMore Go.Proofs.Ytodlgdpkadkjjaa.PPyramidLevels
theorem rHalved {ns : List Nat} {A : Option Addr} {n c : Nat} {w : World} (hx : PL w A n c ns) (h1 : 1 ≤ n ∧ n ≤ 1024) (hs : ∀ i, gt ns i < 4294967296) :
    Calls Try.prog 46 #[.slice A n c] w fun e w' => ∃ A' c', e = .returned (.slice A' (hf n) c') ∧ (nat .u32).R 50 w' w.heap.size (fun _ => True) (.slice A' (hf n) c') (hlv ns n (hf n)) ∧ PL w' A' (hf n) c' (hlv ns n (hf n)) ∧ Below w.heap.size w w' := by
 refine (halved_calls ns A n c w hx h1 hs).mono ?_
 rintro e w' ⟨v, rfl, hR, hb⟩
 obtain ⟨A', n', c', rfl, hL⟩ := PL.of hR
 have e : n' = hf n := hL.2.2.symm.trans (by simp [hlv])
 subst e
 exact ⟨A', c', rfl, hR, hL, hb⟩
theorem rDoubled {ns : List Nat} {A : Option Addr} {n c m : Nat} {w : World} (hx : PL w A n c ns) (h1 : 1 ≤ n ∧ n ≤ 1024) (h2 : hf m = n) (h3 : m ≤ 1024) (hs : ∀ i, gt ns i < 4294967296) :
    Calls Try.prog 50 #[.slice A n c, .int .i64 (m : Int)] w fun e w' => ∃ A' c', e = .returned (.slice A' m c') ∧ (nat .u32).R 50 w' w.heap.size (fun _ => True) (.slice A' m c') (dbl ns n m) ∧ PL w' A' m c' (dbl ns n m) ∧ Below w.heap.size w w' := by
 refine (doubled_calls ns A n c m w hx h1 h2 h3 hs).mono ?_
 rintro e w' ⟨v, rfl, hR, hb⟩
 obtain ⟨A', n', c', rfl, hL⟩ := PL.of hR
 have e : n' = m := hL.2.2.symm.trans (by simp [dbl])
 subst e
 exact ⟨A', c', rfl, hR, hL, hb⟩
def rF (S : Shape) (W : Nat) (p : List Nat) : Nat → Nat → Nat := fun x y => smp S (rowOf p W y) 1 x W
def cG (S : Shape) (w H : Nat) (mid : List Nat) : Nat → Nat → Nat := fun x y => smp S (colOf mid w H x) 1 y H
theorem gridTo_congr {F G : Nat → Nat → Nat} {w h : Nat} (hf : ∀ x y, x < w → y < h → F x y = G x y) : gridTo F w (h * w) = gridTo G w (h * w) := by
 unfold gridTo
 refine List.map_congr_left fun i hi => ?_
 have hi := List.mem_range.mp hi
 rcases Nat.eq_zero_or_pos w with h0 | h0
 ·rw [h0, Nat.mul_zero] at hi; omega
 ·exact hf _ _ (Nat.mod_lt _ h0) ((Nat.div_lt_iff_lt_mul h0).mpr hi)
theorem rMid (S : Shape) (W H w : Nat) (p : List Nat) (hp : p.length = W * H) : gridTo (rF S W p) w (H * w) = midZ S W H w p := by
 unfold midZ
 refine gridTo_congr fun x y _ hy => ?_
 unfold rF
 rw [rowOf_eq p W y (by rw [hp, ← Nat.succ_mul, Nat.mul_comm W H]; exact Nat.mul_le_mul_right W hy)]
theorem rRes (S : Shape) (W H w h : Nat) (p : List Nat) (hH : 1 ≤ H) : gridTo (cG S w H (midZ S W H w p)) w (h * w) = resZ S W H w h p := by
 unfold resZ
 refine gridTo_congr fun x y hx _ => ?_
 exact smp_col S _ w H x y hH hx (midZ_length ..)
/-- the columns before x are laid, of the next the first y -/
def Done (G : Nat → Nat → Nat) (w h x y : Nat) (L : List Nat) : Prop := L.length = h * w ∧ ∀ a b, a < w → b < h → (a < x ∨ (a = x ∧ b < y)) → gt L (b * w + a) = G a b
theorem Done.zero (G : Nat → Nat → Nat) (w h : Nat) : Done G w h 0 0 (List.replicate (w * h) 0) := ⟨by rw [List.length_replicate, Nat.mul_comm], fun a b _ _ h => by omega⟩
theorem Done.next {G : Nat → Nat → Nat} {w h x : Nat} {L : List Nat} (hd : Done G w h x h L) : Done G w h (x + 1) 0 L := ⟨hd.1, fun a b h1 h2 h3 => hd.2 a b h1 h2 (by omega)⟩
theorem idx_inj {w a b x y : Nat} (ha : a < w) (hx : x < w) (h : y * w + x = b * w + a) : y = b ∧ x = a := by
 have e1 : (y * w + x) % w = (b * w + a) % w := by rw [h]
 have e2 : (y * w + x) / w = (b * w + a) / w := by rw [h]
 rw [Nat.add_comm, Nat.add_mul_mod_self_right, Nat.mod_eq_of_lt hx, Nat.add_comm (b * w), Nat.add_mul_mod_self_right, Nat.mod_eq_of_lt ha] at e1
 rw [Nat.add_comm, Nat.add_mul_div_right _ _ (by omega : 0 < w), Nat.div_eq_of_lt hx, Nat.add_comm (b * w), Nat.add_mul_div_right _ _ (by omega : 0 < w), Nat.div_eq_of_lt ha, Nat.zero_add, Nat.zero_add] at e2
 exact ⟨e2, e1⟩
theorem idx_lt2 {w h x y : Nat} (hx : x < w) (hy : y < h) : y * w + x < h * w := by
 have h3 : y * w + w ≤ h * w := by rw [← Nat.succ_mul]; exact Nat.mul_le_mul_right w hy
 omega
theorem Done.put {G : Nat → Nat → Nat} {w h x y : Nat} {L : List Nat} (hd : Done G w h x y L) (hx : x < w) (hy : y < h) : Done G w h x (y + 1) (L.set (y * w + x) (G x y)) := by
 refine ⟨by rw [List.length_set]; exact hd.1, fun a b h1 h2 h3 => ?_⟩
 rw [gt_set]
 by_cases e : y * w + x = b * w + a
 ·obtain ⟨rfl, rfl⟩ := idx_inj h1 hx e
  rw [if_pos ⟨rfl, by rw [hd.1]; exact idx_lt2 hx hy⟩]
 ·rw [if_neg (fun h => e h.1)]
  refine hd.2 a b h1 h2 ?_
  rcases h3 with h3 | ⟨rfl, h3⟩
  ·exact .inl h3
  ·refine .inr ⟨rfl, ?_⟩
   rcases Nat.lt_or_ge b y with h4 | h4
   ·exact h4
   ·exact absurd (by rw [show b = y by omega]) e
theorem Done.all {G : Nat → Nat → Nat} {w h : Nat} {L : List Nat} (hw : 0 < w) (hd : Done G w h w 0 L) : L = gridTo G w (h * w) := by
 refine gt_ext (by rw [hd.1, gridTo_length]) fun i hi => ?_
 rw [hd.1] at hi
 have h1 : i % w < w := Nat.mod_lt _ hw
 have h2 : i / w < h := (Nat.div_lt_iff_lt_mul hw).mpr hi
 have e : (i / w) * w + i % w = i := by rw [Nat.mul_comm]; exact Nat.div_add_mod i w
 have h3 := hd.2 (i % w) (i / w) h1 h2 (.inl h1)
 have h4 := gridTo_get G (n := h * w) h1 (by rw [e]; exact hi)
 rw [e] at h3 h4
 rw [h3]
 unfold gt
 rw [List.getD_eq_getElem?_getD, h4]
 rfl
theorem M3_below {W2 : World} {gF w h gf nf cf : Nat} {wr w' : World} {ys : List Nat} (hM : M3 W2 gF w h gf nf cf wr ys) (hb : Below wr.heap.size wr w') : M3 W2 gF w h gf nf cf w' ys := ⟨Kd.R_below hM.1 hb, blk_below hM.2.1 hb, below_step hM.2.2 hb⟩
theorem M3_lt {W2 : World} {gF w h gf nf cf : Nat} {wr : World} {ys : List Nat} (hM : M3 W2 gF w h gf nf cf wr ys) : gf < wr.heap.size := by
 obtain ⟨inner, ho⟩ := Kd.R_own hM.1
 exact own_lt ho gf rfl
theorem R_setn {w : World} {B g i : Nat} {u : Value} {ok : Nat → Prop} {v : Value} {xs : List Nat} (h : (nat .u32).R 50 w B ok v xs) (hg : g < B) : (nat .u32).R 50 (w.setCell ⟨g, i, none⟩ u) B ok v xs :=
 Kd.R_mono (Kd.R_move (Kd.R_bound h) (fun k hk => Below.heap_setCell w _ u k (by show k ≠ g; have := hk.2.1; omega))) (fun _ hk => hk.1)
end Go.Proofs.Ytodlgdpkadkjjaa.A
end
section
set_option linter.unusedVariables false
set_option linter.unusedSimpArgs false
namespace Go.Proofs.Ytodlgdpkadkjjaa.A
open Go.RowKit Go.Shelf Go.Proofs.YtodlgdpkadkjjaaW.PrintWords Go.Proofs.YtodlgdpkadkjjaaW.PrintLast Go.Proofs.YtodlgdpkadkjjaaW.PrintMore Go.Proofs.Ytodlgdpkadkjjaa.PPyramidLevels
set_option maxHeartbeats 8000000 in
set_option maxRecDepth 100000 in
theorem rReduce_ok (W H : Nat) (p : List Nat) (A : Option Addr) (n cap : Nat) (w : World) (hp : (Pl.mk W H p).ok) (hx : PL w A n cap p) :
    Calls Try.prog 14 #[.agg #[.int .i64 (W : Int), .int .i64 (H : Int), .slice A n cap]] w fun e w' => ∃ v, e = .returned (.tuple #[.agg #[.int .i64 ((hf W : Nat) : Int), .int .i64 ((hf H : Nat) : Int), v], .int .i64 0]) ∧ (nat .u32).R 50 w' w.heap.size (fun _ => True) v (redS W H p) ∧ Below w.heap.size w w' := by
 have hu25 := Try.underlying25
 have HE : Aside0 (checkE (W : Int) (H : Int) n = 0) := ⟨by rw [← hx.2.2]; exact hp.checkE⟩
 have HPX : Aside0 (∀ i, gt p i < 4294967296) := ⟨hp.2.2.2.2.2.2⟩
 obtain ⟨p1, p2, p3, p4, p5, p6, p7⟩ := hp
 have p1 : 0 < W := p1
 have p2 : 0 < H := p2
 have p3 : W ≤ 1024 := p3
 have p4 : H ≤ 1024 := p4
 have p5 : W * H ≤ 65536 := p5
 have p6 : p.length = W * H := p6
 have HNL : Aside0 (n < 9223372036854775808) := ⟨by have := hx.2.2; omega⟩
 have HPN := Aside0.mk p6
 have HX := Aside0.mk hx
 have HWB : Aside0 (1 ≤ W ∧ W ≤ 1024) := ⟨⟨p1, p3⟩⟩
 have HHB : Aside0 (1 ≤ H ∧ H ≤ 1024) := ⟨⟨p2, p4⟩⟩
 obtain ⟨wn, hwn⟩ : ∃ wn, hf W = wn := ⟨_, rfl⟩
 obtain ⟨hn, hhn⟩ : ∃ hn, hf H = hn := ⟨_, rfl⟩
 have HWN := Aside0.mk hwn
 have HHN := Aside0.mk hhn
 have hwb : 1 ≤ wn ∧ wn ≤ 512 := by rw [← hwn]; unfold hf; omega
 have hhb : 1 ≤ hn ∧ hn ≤ 512 := by rw [← hhn]; unfold hf; omega
 obtain ⟨kz, hK⟩ : ∃ kz, wn * hn = kz := ⟨_, rfl⟩
 have hKb : 0 < kz ∧ kz ≤ 65536 := by rw [← hK]; exact ⟨Nat.mul_pos hwb.1 hhb.1, Nat.le_trans (by rw [← hwn, ← hhn]; exact Nat.mul_le_mul (by unfold hf; omega) (by unfold hf; omega)) p5⟩
 have HKK := Aside0.mk hK
 have HKB := Aside0.mk hKb
 have hwH : H * wn ≤ 1048576 := Nat.le_trans (Nat.mul_le_mul p4 (show wn ≤ 1024 by omega)) (by decide)
 have HWH := Aside0.mk hwH
 have hRS : redS W H p = resZ reduceS W H wn hn p := by unfold redS; rw [hwn, hhn]
 rw [hwn, hhn, hRS]
 have HRS : Aside0 (gridTo (cG reduceS wn H (midZ reduceS W H wn p)) wn (hn * wn) = resZ reduceS W H wn hn p) := ⟨rRes reduceS W H wn hn p p2⟩
 have HMD : Aside0 (gridTo (rF reduceS W p) wn (H * wn) = midZ reduceS W H wn p) := ⟨rMid reduceS W H wn p p6⟩
 have HML : Aside0 (∀ i, gt (midZ reduceS W H wn p) i < 4294967296) := ⟨gt_lt_of (by decide) (midZ_lt reduceS reduce_good W H wn p (lt_of_gt p7) p1 (by omega))⟩
 clear p1 p2 p5 p6 p7 hx hwn hhn hK hRS hwH
 go_enter Try.func14, Try.ntmps14
 go_upto_region 4 with (first | ((with_reducible refine gate_dst (N := 1) rfl ?_); refine box_event ?hg (N := 1) ?hd (cs := #[.int .i64 (W : Int), .int .i64 (H : Int), .slice A n cap]) (t := 25) ?hr ?_; (case hd => rfl); (case hg => rfl); (case hr => first | (go_simp; done) | (go_simp; rfl)); intro gP hg_ w1 hm_ hb_; have P1 := Aside0.mk (hm_); have B1 := Aside0.mk (hb_); have GP := Aside0.mk (show w.heap.size ≤ gP by rw [hg_]; exact Nat.le_refl _); clear hm_ hb_ hg_) | ((with_reducible refine gate_dst (N := 2) rfl ?_); refine box_event ?hg (N := 2) ?hd (cs := #[.int .i64 0, .int .i64 0, .slice none 0 0]) (t := 25) ?hr ?_; (case hd => rfl); (case hg => rfl); (case hr => first | (go_simp; done) | (go_simp; rfl)); intro gR hg_ w2 hm_ hb_; have R2 := Aside0.mk (hm_); have P2 := Aside0.mk (blk_below P1.out hb_); have B2 := Aside0.mk (below_step B1.out hb_); have GR := Aside0.mk (show w.heap.size ≤ gR by rw [hg_]; exact below_size B1.out); have p0 := (blk_cell P2.out 0).trans rfl; have p1 := (blk_cell P2.out 1).trans rfl; have p2 := (blk_cell P2.out 2).trans rfl; clear hm_ hb_ hg_ P1 B1) | (go_at_call 44; refine (rCheck_calls (W : Int) (H : Int) A n cap _ HNL.out).mono ?_; rw [HE.out]; rintro e w3 ⟨rfl, hb⟩; have P3 := Aside0.mk (blk_below P2.out hb); have R3 := Aside0.mk (blk_below R2.out hb); have B3 := Aside0.mk (below_step B2.out hb); clear hb p0 p1 p2))
 have P4 := Aside0.mk (blk_drew P3.out)
 have R4 := Aside0.mk (blk_drew R3.out)
 have B4 := Aside0.mk (below_drew B3.out)
 have BR_ := Aside0.mk (Below.refl w3.drew.heap.size w3.drew)
 clear P3 R3 B3
 refine start_ (n := 8) (S := fun w' => w'.cell? ⟨gP, 0, none⟩ = some (.int .i64 (W : Int)) ∧ w'.cell? ⟨gP, 1, none⟩ = some (.int .i64 (H : Int)) ∧ w'.cell? ⟨gP, 2, none⟩ = some (.slice A n cap)) (ds := [7]) #[ff_,ff_,ff_,ff_,ff_,ff_,ff_,ff_] (by kernel_rfl) rfl rfl ⟨(blk_cell (blk_below P4.out BR_.out) 0).trans rfl, (blk_cell (blk_below P4.out BR_.out) 1).trans rfl, (blk_cell (blk_below P4.out BR_.out) 2).trans rfl⟩ (fun hHeld => ?_)
 generalize w3.drew = w4 at *
 refine pure_ (i := 0) (N := some 17) (v := ?_) (a' := ?_) #[tt_,ff_,ff_,ff_,ff_,ff_,ff_,ff_] rfl rfl (by kernel_rfl) (fun _ _ _ h => h) (Or.inl ⟨by rfl, ?_⟩) ?_ ?_
 rotate_left
 ·intro w'
  go_simp
  with_reducible rfl
 rotate_left
 ·simp only [Act.put, List.setIfInBounds_toArray, List.set_cons_zero, List.set_cons_succ, i64_w, i32_w]
  rfl
 refine pure_ (i := 3) (N := some 20) (v := ?_) (a' := ?_) #[tt_,ff_,ff_,tt_,ff_,ff_,ff_,ff_] rfl rfl (by kernel_rfl) (fun _ _ _ h => h) (Or.inl ⟨by rfl, ?_⟩) ?_ ?_
 rotate_left
 ·intro w'
  go_simp
  with_reducible rfl
 rotate_left
 ·simp only [Act.put, List.setIfInBounds_toArray, List.set_cons_zero, List.set_cons_succ, i64_w, i32_w]
  rfl
 refine take_ (i := 1) (N := some 18) (v := ?_) (a' := ?_) #[tt_,tt_,ff_,tt_,ff_,ff_,ff_,ff_] rfl rfl (by kernel_rfl) (fun _ _ _ h => h) (Or.inl ⟨by rfl, ?_⟩) hHeld ?_ ?_
 rotate_left
 ·rintro w' ⟨s0, s1, s2⟩
  go_simp
  with_reducible rfl
 rotate_left
 ·simp only [Act.put, List.setIfInBounds_toArray, List.set_cons_zero, List.set_cons_succ, i64_w, i32_w]
  rfl
 refine take_ (i := 4) (N := some 21) (v := ?_) (a' := ?_) #[tt_,tt_,ff_,tt_,tt_,ff_,ff_,ff_] rfl rfl (by kernel_rfl) (fun _ _ _ h => h) (Or.inl ⟨by rfl, ?_⟩) hHeld ?_ ?_
 rotate_left
 ·rintro w' ⟨s0, s1, s2⟩
  go_simp
  with_reducible rfl
 rotate_left
 ·simp only [Act.put, List.setIfInBounds_toArray, List.set_cons_zero, List.set_cons_succ, i64_w, i32_w]
  rfl
 refine join_ (σ := Nat) 1 #[tt_,tt_,tt_,tt_,tt_,tt_,tt_,ff_] (fun q_ => [(19, .int .i64 (wn : Int)), (22, .agg #[.int .i64 (wn : Int), .int .i64 (H : Int), .slice none 0 0]), (5, .pointer (some ⟨q_, 0, none⟩))]) (fun q_ w' => w'.heap[q_]? = some (.cells #[.int .i64 0, .int .i64 0, .slice none 0 0] 25 (0, 0)) ∧ w4.heap.size ≤ q_ ∧ Below w4.heap.size w4 w') ?_ ?_
 rotate_left
 ·intro hCont
  refine two_ (i := 2) (j := 6) (Ni := some 19) (Nj := some 5) #[tt_,tt_,tt_,tt_,tt_,ff_,ff_,ff_] #[tt_,tt_,ff_,tt_,tt_,ff_,tt_,ff_] rfl rfl rfl rfl (by kernel_rfl) (by decide) (by decide) (fun K hK => ?_) (fun K hK => ?_)
  ·skip
   refine goes_ Try.func45 (by kernel_rfl) rfl #[.int .i64 (W : Int)] (by rfl) rfl rfl (by (try simp only [List.map_toArray, List.map_cons, List.map_nil]); rfl) ?_
   refine (rHalf W _ HWB.out.2).mono ?_
   rw [HWN.out]
   rintro e w_2 ⟨rfl, hb⟩
   refine ⟨_, rfl, ?_⟩
   have BR_2 := Aside0.mk (below_step BR_.out hb)
   clear hb
   refine hK.out _ _ ⟨(blk_cell (blk_below P4.out BR_2.out) 0).trans rfl, (blk_cell (blk_below P4.out BR_2.out) 1).trans rfl, (blk_cell (blk_below P4.out BR_2.out) 2).trans rfl⟩ (fun hHeld => ?_)
   clear hK K
   refine norm_ (a' := ?_) ?_ ?_
   rotate_left
   ·show Act.put _ (some 19) _ = _
    simp only [Act.put, List.setIfInBounds_toArray, List.set_cons_zero, List.set_cons_succ, i64_w, i32_w]
    rfl
   refine pure_ (i := 5) (N := some 22) (v := ?_) (a' := ?_) #[tt_,tt_,tt_,tt_,tt_,tt_,ff_,ff_] rfl rfl (by kernel_rfl) (fun _ _ _ h => h) (Or.inl ⟨by rfl, ?_⟩) ?_ ?_
   rotate_left
   ·intro w'
    go_simp
    with_reducible rfl
   rotate_left
   ·simp only [Act.put, List.setIfInBounds_toArray, List.set_cons_zero, List.set_cons_succ, i64_w, i32_w]
    rfl
   refine one_ (i := 6) (N := some 5) #[tt_,tt_,tt_,tt_,tt_,tt_,tt_,ff_] rfl rfl (by kernel_rfl) (by decide) (fun K hK => ?_)
   refine alloc_step (cs := #[.int .i64 0, .int .i64 0, .slice none 0 0]) (t := 25) (by rfl) rfl (by first | (go_simp; done) | (go_simp; rfl)) ?_
   intro gT hg17
   have BR_2_6 := Aside0.mk (below_alloc BR_2.out (.cells #[.int .i64 0, .int .i64 0, .slice none 0 0] 25 (0, 0)))
   have Z_2_6 := Aside0.mk (blk_new w_2 (.cells #[.int .i64 0, .int .i64 0, .slice none 0 0] 25 (0, 0)))
   rw [← hg17] at Z_2_6
   have GEgT := Aside0.mk (show w4.heap.size ≤ gT by rw [hg17]; exact below_size BR_2.out)
   clear hg17
   generalize w_2.alloc (.cells #[.int .i64 0, .int .i64 0, .slice none 0 0] 25 (0, 0)) = w_2_6 at *
   refine hK.out _ _ ⟨(blk_cell (blk_below P4.out BR_2_6.out) 0).trans rfl, (blk_cell (blk_below P4.out BR_2_6.out) 1).trans rfl, (blk_cell (blk_below P4.out BR_2_6.out) 2).trans rfl⟩ (fun hHeld => ?_)
   clear hK K
   refine norm_ (a' := ?_) ?_ ?_
   rotate_left
   ·show Act.put _ (some 5) _ = _
    simp only [Act.put, List.setIfInBounds_toArray, List.set_cons_zero, List.set_cons_succ, i64_w, i32_w]
    rfl
   exact norm_ (by rfl) (hCont gT _ ⟨Z_2_6.out, GEgT.out, BR_2_6.out⟩)
  ·skip
   refine alloc_step (cs := #[.int .i64 0, .int .i64 0, .slice none 0 0]) (t := 25) (by rfl) rfl (by first | (go_simp; done) | (go_simp; rfl)) ?_
   intro gT hg17
   have BR_6 := Aside0.mk (below_alloc BR_.out (.cells #[.int .i64 0, .int .i64 0, .slice none 0 0] 25 (0, 0)))
   have Z_6 := Aside0.mk (blk_new w4 (.cells #[.int .i64 0, .int .i64 0, .slice none 0 0] 25 (0, 0)))
   rw [← hg17] at Z_6
   have GEgT := Aside0.mk (show w4.heap.size ≤ gT by rw [hg17]; exact below_size BR_.out)
   clear hg17
   generalize w4.alloc (.cells #[.int .i64 0, .int .i64 0, .slice none 0 0] 25 (0, 0)) = w_6 at *
   refine hK.out _ _ ⟨(blk_cell (blk_below P4.out BR_6.out) 0).trans rfl, (blk_cell (blk_below P4.out BR_6.out) 1).trans rfl, (blk_cell (blk_below P4.out BR_6.out) 2).trans rfl⟩ (fun hHeld => ?_)
   clear hK K
   refine norm_ (a' := ?_) ?_ ?_
   rotate_left
   ·show Act.put _ (some 5) _ = _
    simp only [Act.put, List.setIfInBounds_toArray, List.set_cons_zero, List.set_cons_succ, i64_w, i32_w]
    rfl
   refine one_ (i := 2) (N := some 19) #[tt_,tt_,tt_,tt_,tt_,ff_,tt_,ff_] rfl rfl (by kernel_rfl) (by decide) (fun K hK => ?_)
   refine goes_ Try.func45 (by kernel_rfl) rfl #[.int .i64 (W : Int)] (by rfl) rfl rfl (by (try simp only [List.map_toArray, List.map_cons, List.map_nil]); rfl) ?_
   refine (rHalf W _ HWB.out.2).mono ?_
   rw [HWN.out]
   rintro e w_6_2 ⟨rfl, hb⟩
   refine ⟨_, rfl, ?_⟩
   have BR_6_2 := Aside0.mk (below_step BR_6.out hb)
   have Z_6_2 := Aside0.mk (blk_below Z_6.out hb)
   clear hb
   refine hK.out _ _ ⟨(blk_cell (blk_below P4.out BR_6_2.out) 0).trans rfl, (blk_cell (blk_below P4.out BR_6_2.out) 1).trans rfl, (blk_cell (blk_below P4.out BR_6_2.out) 2).trans rfl⟩ (fun hHeld => ?_)
   clear hK K
   refine norm_ (a' := ?_) ?_ ?_
   rotate_left
   ·show Act.put _ (some 19) _ = _
    simp only [Act.put, List.setIfInBounds_toArray, List.set_cons_zero, List.set_cons_succ, i64_w, i32_w]
    rfl
   refine pure_ (i := 5) (N := some 22) (v := ?_) (a' := ?_) #[tt_,tt_,tt_,tt_,tt_,tt_,tt_,ff_] rfl rfl (by kernel_rfl) (fun _ _ _ h => h) (Or.inl ⟨by rfl, ?_⟩) ?_ ?_
   rotate_left
   ·intro w'
    go_simp
    with_reducible rfl
   rotate_left
   ·simp only [Act.put, List.setIfInBounds_toArray, List.set_cons_zero, List.set_cons_succ, i64_w, i32_w]
    rfl
   exact norm_ (by rfl) (hCont gT _ ⟨Z_6_2.out, GEgT.out, BR_6_2.out⟩)
 rintro gT w5 ⟨hZ, hge, hB⟩
 have Z5 := Aside0.mk (hZ)
 have GT := Aside0.mk (hge)
 have BR5 := Aside0.mk (hB)
 have hHeld : w5.cell? ⟨gP, 0, none⟩ = some (.int .i64 (W : Int)) ∧ w5.cell? ⟨gP, 1, none⟩ = some (.int .i64 (H : Int)) ∧ w5.cell? ⟨gP, 2, none⟩ = some (.slice A n cap) := ⟨(blk_cell (blk_below P4.out BR5.out) 0).trans rfl, (blk_cell (blk_below P4.out BR5.out) 1).trans rfl, (blk_cell (blk_below P4.out BR5.out) 2).trans rfl⟩
 clear hZ hge hB
 refine norm_ (a' := ?_) ?_ ?_
 rotate_left
 ·simp only [YtodlgdpkadkjjaaW.PrintLast.putAll, Act.put, List.setIfInBounds_toArray, List.set_cons_zero, List.set_cons_succ]
  rfl
 refine last_ (i := 7) (N := none) #[tt_,tt_,tt_,tt_,tt_,tt_,tt_,tt_] rfl rfl (by kernel_rfl) (by decide) (fun K hK => ?_)
 refine storeP_step (by rfl) rfl rfl gT (wn : Int) (H : Int) none 0 0 _ _ _ rfl rfl Z5.out ?_
 intro w6 hm_ hst_ hbl_
 have T6 := Aside0.mk (hm_)
 have B6 := Aside0.mk (BR5.out.trans (hbl_ _ GT.out))
 clear hm_ hst_ hbl_
 refine hK.out _ _ ?_
 clear hK K
 refine done_ (by kernel_rfl) ?_
 have X4 := Aside0.mk (HX.out.below B4.out)
 clear Z5 BR5 BR_ hHeld
 have HI0 : Aside0 (M2 w4 gT wn H w6 (.slice none 0 0) []) := ⟨⟨Kd.R_nil _ _ _ _ _, T6.out, B6.out⟩⟩
 obtain ⟨v0, hv0⟩ : ∃ v0, v0 = Value.slice none 0 0 := ⟨_, rfl⟩
 obtain ⟨xs0, hxs0⟩ : ∃ xs0 : List Nat, xs0 = [] := ⟨_, rfl⟩
 rw [← hv0, ← hxs0] at HI0
 have HX0 : Aside0 (xs0 = gridTo (rF reduceS W p) wn (0 * wn)) := ⟨by rw [hxs0, Nat.zero_mul]; rfl⟩
 clear hv0 hxs0 T6 B6
 go_wp2
 go_loopw [6] (fun yv wr => ∃ (y : Nat) (v : Value) (xs : List Nat), y ≤ H ∧ yv = .int .i64 (y : Int) ∧ Aside0 (xs = gridTo (rF reduceS W p) wn (y * wn)) ∧ Aside0 (M2 w4 gT wn H wr v xs)) (fun yv _ => H - (intOf yv).toNat)
 case atStart => exact ⟨0, v0, xs0, Nat.zero_le _, rfl, HX0, HI0⟩
 case round =>
  clear HI0 HX0
  obtain ⟨y, v, xs, hy, rfl, HXY, HM⟩ := hrel
  have p1 := (blk_cell (blk_below P4.out HM.out.2.2) 1).trans rfl
  by_cases hlt : y < H
  ·have c1 : decide ((y : Int) < (H : Int)) = true := decide_eq_true (by omega)
   have HLT := Aside0.mk hlt
   obtain ⟨ro, hro⟩ : ∃ ro, hlv (rowOf p W y) W wn = ro := ⟨_, rfl⟩
   have HRO := Aside0.mk hro
   have HRL : Aside0 (∀ i, gt (rowOf p W y) i < 4294967296) := ⟨map_lt W (fun i => HPX.out _)⟩
   obtain ⟨xs', hxs'⟩ : ∃ xs', xs ++ ro = xs' := ⟨_, rfl⟩
   have HXA := Aside0.mk hxs'
   have HXS : Aside0 (xs' = gridTo (rF reduceS W p) wn ((y + 1) * wn)) := ⟨by rw [← hxs', HXY.out, ← hro]; exact gridTo_row (rF reduceS W p) wn y⟩
   have HXN : Aside0 ((xs.length + wn) * 4 ≤ 140737488355328) := ⟨by
    rw [HXY.out, gridTo_length]
    have h1 : y * wn + wn ≤ H * wn := by rw [← Nat.succ_mul]; exact Nat.mul_le_mul_right wn hlt
    have h9 := HWH.out
    omega⟩
   obtain ⟨A3, c3, hv, hc3, hC3⟩ := Kd.R_reads HM.out.1
   obtain ⟨n3, hn3⟩ : ∃ n3, xs.length = n3 := ⟨_, rfl⟩
   rw [hn3] at hv
   subst hv
   have V30 := Aside0.mk (Kd.R_drew HM.out.1)
   have T30 := Aside0.mk (blk_drew HM.out.2.1)
   have BT30 := Aside0.mk (below_drew HM.out.2.2)
   clear hro hxs' hc3 hC3 hn3 HM
   go_upto_region 8 with (fail)
   refine start_ (n := 9) (S := fun w' => w'.cell? ⟨gT, 2, none⟩ = some (.slice A3 n3 c3) ∧ w'.cell? ⟨gP, 0, none⟩ = some (.int .i64 (W : Int)) ∧ w'.cell? ⟨gP, 1, none⟩ = some (.int .i64 (H : Int)) ∧ w'.cell? ⟨gP, 2, none⟩ = some (.slice A n cap)) (ds := [6, 8]) #[ff_,ff_,ff_,ff_,ff_,ff_,ff_,ff_,ff_] (by kernel_rfl) rfl rfl ⟨(blk_cell T30.out 2).trans rfl, (blk_cell (blk_below P4.out BT30.out) 0).trans rfl, (blk_cell (blk_below P4.out BT30.out) 1).trans rfl, (blk_cell (blk_below P4.out BT30.out) 2).trans rfl⟩ (fun hHeld => ?_)
   generalize wr.drew = w30 at *
   refine pure_ (i := 0) (N := some 29) (v := ?_) (a' := ?_) #[tt_,ff_,ff_,ff_,ff_,ff_,ff_,ff_,ff_] rfl rfl (by kernel_rfl) (fun _ _ _ h => h) (Or.inl ⟨by rfl, ?_⟩) ?_ ?_
   rotate_left
   ·intro w'
    go_simp
    with_reducible rfl
   rotate_left
   ·simp only [Act.put, List.setIfInBounds_toArray, List.set_cons_zero, List.set_cons_succ, i64_w, i32_w]
    rfl
   refine pure_ (i := 3) (N := some 32) (v := ?_) (a' := ?_) #[tt_,ff_,ff_,tt_,ff_,ff_,ff_,ff_,ff_] rfl rfl (by kernel_rfl) (fun _ _ _ h => h) (Or.inl ⟨by rfl, ?_⟩) ?_ ?_
   rotate_left
   ·intro w'
    go_simp
    with_reducible rfl
   rotate_left
   ·simp only [Act.put, List.setIfInBounds_toArray, List.set_cons_zero, List.set_cons_succ, i64_w, i32_w]
    rfl
   refine take_ (i := 1) (N := some 30) (v := ?_) (a' := ?_) #[tt_,tt_,ff_,tt_,ff_,ff_,ff_,ff_,ff_] rfl rfl (by kernel_rfl) (fun _ _ _ h => h) (Or.inl ⟨by rfl, ?_⟩) hHeld ?_ ?_
   rotate_left
   ·rintro w' ⟨s0, s1, s2, s3⟩
    go_simp
    with_reducible rfl
   rotate_left
   ·simp only [Act.put, List.setIfInBounds_toArray, List.set_cons_zero, List.set_cons_succ, i64_w, i32_w]
    rfl
   refine take_ (i := 2) (N := some 31) (v := ?_) (a' := ?_) #[tt_,tt_,tt_,tt_,ff_,ff_,ff_,ff_,ff_] rfl rfl (by kernel_rfl) (fun _ _ _ h => h) (Or.inl ⟨by rfl, ?_⟩) hHeld ?_ ?_
   rotate_left
   ·rintro w' ⟨s0, s1, s2, s3⟩
    go_simp
    with_reducible rfl
   rotate_left
   ·simp only [Act.put, List.setIfInBounds_toArray, List.set_cons_zero, List.set_cons_succ, i64_w, i32_w]
    rfl
   refine one_ (i := 4) (N := some 33) #[tt_,tt_,tt_,tt_,tt_,ff_,ff_,ff_,ff_] rfl rfl (by kernel_rfl) (by decide) (fun K hK => ?_)
   refine goes_ Try.func47 (by kernel_rfl) rfl #[.agg #[.int .i64 (W : Int), .int .i64 (H : Int), .slice A n cap], .bool false, .int .i64 (y : Int)] (by rfl) rfl rfl (by (try simp only [List.map_toArray, List.map_cons, List.map_nil]); rfl) ?_
   refine (rRow_calls (X4.out.below BT30.out) HLT.out HWB.out.2 HHB.out.2 HPN.out).mono ?_
   rintro e w31 ⟨A31, c31, rfl, hL, hb⟩
   refine ⟨_, rfl, ?_⟩
   have T31 := Aside0.mk (blk_below T30.out hb)
   have BT31 := Aside0.mk (below_step BT30.out hb)
   have V31 := Aside0.mk (Kd.R_below V30.out hb)
   have L31 := Aside0.mk (hL)
   clear hb hL
   refine hK.out _ _ ⟨(blk_cell T31.out 2).trans rfl, (blk_cell (blk_below P4.out BT31.out) 0).trans rfl, (blk_cell (blk_below P4.out BT31.out) 1).trans rfl, (blk_cell (blk_below P4.out BT31.out) 2).trans rfl⟩ (fun hHeld => ?_)
   clear hK K
   refine norm_ (a' := ?_) ?_ ?_
   rotate_left
   ·show Act.put _ (some 33) _ = _
    simp only [Act.put, List.setIfInBounds_toArray, List.set_cons_zero, List.set_cons_succ, i64_w, i32_w]
    rfl
   refine one_ (i := 5) (N := some 34) #[tt_,tt_,tt_,tt_,tt_,tt_,ff_,ff_,ff_] rfl rfl (by kernel_rfl) (by decide) (fun K hK => ?_)
   refine goes_ Try.func46 (by kernel_rfl) rfl #[.slice A31 W c31] (by rfl) rfl rfl (by (try simp only [List.map_toArray, List.map_cons, List.map_nil]); rfl) ?_
   refine (rHalved L31.out HWB.out HRL.out).mono ?_
   rw [HWN.out, HRO.out]
   rintro e w32 ⟨A32, c32, rfl, hR, hL, hb⟩
   refine ⟨_, rfl, ?_⟩
   have T32 := Aside0.mk (blk_below T31.out hb)
   have BT32 := Aside0.mk (below_step BT31.out hb)
   have V32 := Aside0.mk (Kd.R_below V31.out hb)
   have L32 := Aside0.mk (hL)
   clear hb hL hR
   refine hK.out _ _ ⟨(blk_cell T32.out 2).trans rfl, (blk_cell (blk_below P4.out BT32.out) 0).trans rfl, (blk_cell (blk_below P4.out BT32.out) 1).trans rfl, (blk_cell (blk_below P4.out BT32.out) 2).trans rfl⟩ (fun hHeld => ?_)
   clear hK K
   refine norm_ (a' := ?_) ?_ ?_
   rotate_left
   ·show Act.put _ (some 34) _ = _
    simp only [Act.put, List.setIfInBounds_toArray, List.set_cons_zero, List.set_cons_succ, i64_w, i32_w]
    rfl
   refine last_ (i := 6) (N := some 35) #[tt_,tt_,tt_,tt_,tt_,tt_,tt_,ff_,ff_] rfl rfl (by kernel_rfl) (by decide) (fun K hK => ?_)
   refine Kd.R_append_rows_step (nat .u32) (Rr := (nat .u32).K w32) (w0 := w4) w4.heap.size (by rfl) (.tmp 30) (.tmp 34) 23 50 (.int .u32 0) 4 rfl Try.underlying23 info50 rfl (by decide) (by omega) (.slice A3 n3 c3) xs ro A32 wn c32 (fun _ => True) (fun _ => False) rfl rfl V32.out ?aR (fun x cs h => h) (fun _ h => h.elim) (fun _ _ => trivial) BT32.out BT32.out.size HXN.out ?_
   (case aR => exact L32.out.1)
   intro v7 w7 hR1 hB1 hg1 hat1
   rw [HXA.out] at hR1
   obtain ⟨A7, c7, hv7⟩ := Kd.R_slice hR1
   obtain ⟨n7, hn7⟩ : ∃ n7, xs'.length = n7 := ⟨_, rfl⟩
   rw [hn7] at hv7
   subst hv7
   have V7 := Aside0.mk (hR1)
   have BT7 := Aside0.mk (hB1)
   have T7 := Aside0.mk (blk_grown T32.out hg1 (Kd.R_ne V32.out T32.out (by decide)))
   clear hR1 hB1 hg1 hat1 hn7
   have q2 := (blk_cell T7.out 2).trans rfl
   have fr2 := blk_frozen T7.out 2
   refine hK.out _ _ ?_
   clear hK K
   refine norm_ (a' := ?_) ?_ ?_
   rotate_left
   ·show Act.put _ (some 35) _ = _
    simp only [Act.put, List.setIfInBounds_toArray, List.set_cons_zero, List.set_cons_succ, i64_w, i32_w]
    rfl
   refine pure_ (i := 7) (N := some 36) (v := ?_) (a' := ?_) #[tt_,tt_,tt_,tt_,tt_,tt_,tt_,tt_,ff_] rfl rfl (by kernel_rfl) (fun _ _ _ h => h) (Or.inl ⟨by rfl, ?_⟩) ?_ ?_
   rotate_left
   ·intro w'
    go_simp
    with_reducible rfl
   rotate_left
   ·simp only [Act.put, List.setIfInBounds_toArray, List.set_cons_zero, List.set_cons_succ, i64_w, i32_w]
    rfl
   refine last_ (i := 8) (N := none) #[tt_,tt_,tt_,tt_,tt_,tt_,tt_,tt_,tt_] rfl rfl (by kernel_rfl) (by decide) (fun K hK => ?_)
   refine skip_ (w1 := ?_) (by rfl) rfl ?_ ?_
   rotate_left
   ·go_simp
    rfl
   refine hK.out _ _ ?_
   clear hK K
   refine done_ (by kernel_rfl) ?_
   clear hHeld
   obtain ⟨w10, hw10⟩ : ∃ w10, w10 = w7.setCell ⟨gT, 2, none⟩ (.slice A7 n7 c7) := ⟨_, rfl⟩
   rw [← hw10]
   have P10 : w10.heap[gT]? = some (.cells #[.int .i64 (wn : Int), .int .i64 (H : Int), .slice A7 n7 c7] 25 (0, 0)) := by rw [hw10]; exact (blk_set T7.out 2 _).trans rfl
   have st10 : ∀ k, k ≠ gT → w10.heap[k]? = w7.heap[k]? := by rw [hw10]; exact fun k hk => Below.heap_setCell _ _ _ k hk
   have R10 : (nat .u32).R 50 w10 w4.heap.size (fun _ => True) (.slice A7 n7 c7) xs' := Kd.R_mono (Kd.R_move (Kd.R_types V7.out T7.out (by decide)) (fun k hk => st10 k hk.2)) (fun _ _ => trivial)
   have B10 : Below w4.heap.size w4 w10 := by rw [hw10]; exact BT7.out.setCell (p := ⟨gT, 2, none⟩) GT.out _
   have HJ : Aside0 (M2 w4 gT wn H w10 (.slice A7 n7 c7) xs') := ⟨R10, P10, B10⟩
   clear hw10 P10 st10 R10 B10
   go_wp2
   go_roundw
   case measure => simp [intOf]; omega
   case rel => exact ⟨y + 1, _, xs', by omega, by go_num, HXS, HJ⟩
  ·obtain rfl : H = y := by omega
   have c1 : decide ((H : Int) < (H : Int)) = false := decide_eq_false (by omega)
   obtain ⟨mid, hmid⟩ : ∃ mid, midZ reduceS W H wn p = mid := ⟨_, rfl⟩
   have hxm : xs = mid := by rw [HXY.out, HMD.out, hmid]
   have hml : mid.length = wn * H := by rw [← hmid, midZ_length, Nat.mul_comm]
   obtain ⟨A5, n5, c5, hv, hL5⟩ := PL.of HM.out.1
   subst hv
   subst hxm
   rw [hmid] at HRS HML
   have P20 := Aside0.mk (blk_drew (blk_below P4.out HM.out.2.2))
   have R20 := Aside0.mk (blk_drew (blk_below R4.out HM.out.2.2))
   have T20 := Aside0.mk (blk_drew HM.out.2.1)
   have B20 := Aside0.mk (below_drew (below_step B4.out HM.out.2.2))
   have LM := Aside0.mk (hL5.below (below_drew (Below.refl _ wr)))
   have HMN := Aside0.mk hml
   have BR_ := Aside0.mk (Below.refl wr.drew.heap.size wr.drew)
   have HWB2 := Aside0.mk hwb
   clear hmid hml hL5 HM HXY
   go_upto_region 9 with (fail)
   clear p1
   refine start_ (n := 8) (S := fun w' => w'.cell? ⟨gT, 0, none⟩ = some (.int .i64 (wn : Int)) ∧ w'.cell? ⟨gP, 1, none⟩ = some (.int .i64 (H : Int))) (ds := [7]) #[ff_,ff_,ff_,ff_,ff_,ff_,ff_,ff_] (by kernel_rfl) rfl rfl ⟨(blk_cell (blk_below T20.out BR_.out) 0).trans rfl, (blk_cell (blk_below P20.out BR_.out) 1).trans rfl⟩ (fun hHeld => ?_)
   generalize wr.drew = w20 at *
   refine pure_ (i := 0) (N := some 37) (v := ?_) (a' := ?_) #[tt_,ff_,ff_,ff_,ff_,ff_,ff_,ff_] rfl rfl (by kernel_rfl) (fun _ _ _ h => h) (Or.inl ⟨by rfl, ?_⟩) ?_ ?_
   rotate_left
   ·intro w'
    go_simp
    with_reducible rfl
   rotate_left
   ·simp only [Act.put, List.setIfInBounds_toArray, List.set_cons_zero, List.set_cons_succ, i64_w, i32_w]
    rfl
   refine pure_ (i := 2) (N := some 39) (v := ?_) (a' := ?_) #[tt_,ff_,tt_,ff_,ff_,ff_,ff_,ff_] rfl rfl (by kernel_rfl) (fun _ _ _ h => h) (Or.inl ⟨by rfl, ?_⟩) ?_ ?_
   rotate_left
   ·intro w'
    go_simp
    with_reducible rfl
   rotate_left
   ·simp only [Act.put, List.setIfInBounds_toArray, List.set_cons_zero, List.set_cons_succ, i64_w, i32_w]
    rfl
   refine take_ (i := 1) (N := some 38) (v := ?_) (a' := ?_) #[tt_,tt_,tt_,ff_,ff_,ff_,ff_,ff_] rfl rfl (by kernel_rfl) (fun _ _ _ h => h) (Or.inl ⟨by rfl, ?_⟩) hHeld ?_ ?_
   rotate_left
   ·rintro w' ⟨s0, s1⟩
    go_simp
    with_reducible rfl
   rotate_left
   ·simp only [Act.put, List.setIfInBounds_toArray, List.set_cons_zero, List.set_cons_succ, i64_w, i32_w]
    rfl
   refine take_ (i := 3) (N := some 40) (v := ?_) (a' := ?_) #[tt_,tt_,tt_,tt_,ff_,ff_,ff_,ff_] rfl rfl (by kernel_rfl) (fun _ _ _ h => h) (Or.inl ⟨by rfl, ?_⟩) hHeld ?_ ?_
   rotate_left
   ·rintro w' ⟨s0, s1⟩
    go_simp
    with_reducible rfl
   rotate_left
   ·simp only [Act.put, List.setIfInBounds_toArray, List.set_cons_zero, List.set_cons_succ, i64_w, i32_w]
    rfl
   refine join_ (σ := Nat × Nat × Nat) 1 #[tt_,tt_,tt_,tt_,tt_,tt_,tt_,ff_] (fun q_ => [(41, .int .i64 (hn : Int)), (42, .agg #[.int .i64 (wn : Int), .int .i64 (hn : Int), .slice (some ⟨q_.1, 0, none⟩) kz q_.2.1]), (7, .pointer (some ⟨q_.2.2, 0, none⟩))]) (fun q_ w' => (nat .u32).R 50 w' w20.heap.size (fun _ => True) (.slice (some ⟨q_.1, 0, none⟩) kz q_.2.1) (List.replicate (wn * hn) 0) ∧ w20.heap.size ≤ q_.1 ∧ w'.heap[q_.2.2]? = some (.cells #[.int .i64 0, .int .i64 0, .slice none 0 0] 25 (0, 0)) ∧ w20.heap.size ≤ q_.2.2 ∧ Below w20.heap.size w20 w') ?_ ?_
   rotate_left
   ·intro hCont
    refine two_ (i := 4) (j := 6) (Ni := some 41) (Nj := some 7) #[tt_,tt_,tt_,tt_,tt_,ff_,ff_,ff_] #[tt_,tt_,tt_,tt_,ff_,ff_,tt_,ff_] rfl rfl rfl rfl (by kernel_rfl) (by decide) (by decide) (fun K hK => ?_) (fun K hK => ?_)
    ·skip
     refine goes_ Try.func45 (by kernel_rfl) rfl #[.int .i64 (H : Int)] (by rfl) rfl rfl (by (try simp only [List.map_toArray, List.map_cons, List.map_nil]); rfl) ?_
     refine (rHalf H _ HHB.out.2).mono ?_
     rw [HHN.out]
     rintro e w_4 ⟨rfl, hb⟩
     refine ⟨_, rfl, ?_⟩
     have BR_4 := Aside0.mk (below_step BR_.out hb)
     clear hb
     refine hK.out _ _ ⟨(blk_cell (blk_below T20.out BR_4.out) 0).trans rfl, (blk_cell (blk_below P20.out BR_4.out) 1).trans rfl⟩ (fun hHeld => ?_)
     clear hK K
     refine norm_ (a' := ?_) ?_ ?_
     rotate_left
     ·show Act.put _ (some 41) _ = _
      simp only [Act.put, List.setIfInBounds_toArray, List.set_cons_zero, List.set_cons_succ, i64_w, i32_w]
      rfl
     refine two_ (i := 5) (j := 6) (Ni := some 42) (Nj := some 7) #[tt_,tt_,tt_,tt_,tt_,tt_,ff_,ff_] #[tt_,tt_,tt_,tt_,tt_,ff_,tt_,ff_] rfl rfl rfl rfl (by kernel_rfl) (by decide) (by decide) (fun K hK => ?_) (fun K hK => ?_)
     ·skip
      refine goes_ Try.func48 (by kernel_rfl) rfl #[.int .i64 (wn : Int), .int .i64 (hn : Int)] (by rfl) rfl rfl (by (try simp only [List.map_toArray, List.map_cons, List.map_nil]); rfl) ?_
      refine (rBlank_calls _ (by rw [HKK.out]; exact HKB.out.2)).mono ?_
      rintro e w_4_5 ⟨v9, rfl, hR, hb⟩
      refine ⟨_, rfl, ?_⟩
      obtain ⟨go, co, hv9, hgo, hlt9, hty9⟩ := Kd.R_form hR (by rw [List.length_replicate, HKK.out]; exact HKB.out.1)
      rw [List.length_replicate, HKK.out] at hv9
      subst hv9
      have BR_4_5 := Aside0.mk (below_step BR_4.out hb)
      have V_4_5 := Aside0.mk (Kd.R_lower hR (below_size BR_4.out))
      have GO := Aside0.mk (Nat.le_trans (below_size BR_4.out) hgo)
      clear hR hgo hlt9 hty9 hb
      refine hK.out _ _ ⟨(blk_cell (blk_below T20.out BR_4_5.out) 0).trans rfl, (blk_cell (blk_below P20.out BR_4_5.out) 1).trans rfl⟩ (fun hHeld => ?_)
      clear hK K
      refine norm_ (a' := ?_) ?_ ?_
      rotate_left
      ·show Act.put _ (some 42) _ = _
       simp only [Act.put, List.setIfInBounds_toArray, List.set_cons_zero, List.set_cons_succ, i64_w, i32_w]
       rfl
      refine one_ (i := 6) (N := some 7) #[tt_,tt_,tt_,tt_,tt_,tt_,tt_,ff_] rfl rfl (by kernel_rfl) (by decide) (fun K hK => ?_)
      refine alloc_step (cs := #[.int .i64 0, .int .i64 0, .slice none 0 0]) (t := 25) (by rfl) rfl (by first | (go_simp; done) | (go_simp; rfl)) ?_
      intro gO hg17
      have BR_4_5_6 := Aside0.mk (below_alloc BR_4_5.out (.cells #[.int .i64 0, .int .i64 0, .slice none 0 0] 25 (0, 0)))
      have Z_4_5_6 := Aside0.mk (blk_new w_4_5 (.cells #[.int .i64 0, .int .i64 0, .slice none 0 0] 25 (0, 0)))
      rw [← hg17] at Z_4_5_6
      have GEgO := Aside0.mk (show w20.heap.size ≤ gO by rw [hg17]; exact below_size BR_4_5.out)
      have V_4_5_6 := Aside0.mk (Kd.R_below V_4_5.out (below_alloc (Below.refl _ w_4_5) (.cells #[.int .i64 0, .int .i64 0, .slice none 0 0] 25 (0, 0))))
      clear hg17
      generalize w_4_5.alloc (.cells #[.int .i64 0, .int .i64 0, .slice none 0 0] 25 (0, 0)) = w_4_5_6 at *
      refine hK.out _ _ ⟨(blk_cell (blk_below T20.out BR_4_5_6.out) 0).trans rfl, (blk_cell (blk_below P20.out BR_4_5_6.out) 1).trans rfl⟩ (fun hHeld => ?_)
      clear hK K
      refine norm_ (a' := ?_) ?_ ?_
      rotate_left
      ·show Act.put _ (some 7) _ = _
       simp only [Act.put, List.setIfInBounds_toArray, List.set_cons_zero, List.set_cons_succ, i64_w, i32_w]
       rfl
      exact norm_ (by rfl) (hCont (go, co, gO) _ ⟨V_4_5_6.out, GO.out, Z_4_5_6.out, GEgO.out, BR_4_5_6.out⟩)
     ·skip
      refine alloc_step (cs := #[.int .i64 0, .int .i64 0, .slice none 0 0]) (t := 25) (by rfl) rfl (by first | (go_simp; done) | (go_simp; rfl)) ?_
      intro gO hg17
      have BR_4_6 := Aside0.mk (below_alloc BR_4.out (.cells #[.int .i64 0, .int .i64 0, .slice none 0 0] 25 (0, 0)))
      have Z_4_6 := Aside0.mk (blk_new w_4 (.cells #[.int .i64 0, .int .i64 0, .slice none 0 0] 25 (0, 0)))
      rw [← hg17] at Z_4_6
      have GEgO := Aside0.mk (show w20.heap.size ≤ gO by rw [hg17]; exact below_size BR_4.out)
      clear hg17
      generalize w_4.alloc (.cells #[.int .i64 0, .int .i64 0, .slice none 0 0] 25 (0, 0)) = w_4_6 at *
      refine hK.out _ _ ⟨(blk_cell (blk_below T20.out BR_4_6.out) 0).trans rfl, (blk_cell (blk_below P20.out BR_4_6.out) 1).trans rfl⟩ (fun hHeld => ?_)
      clear hK K
      refine norm_ (a' := ?_) ?_ ?_
      rotate_left
      ·show Act.put _ (some 7) _ = _
       simp only [Act.put, List.setIfInBounds_toArray, List.set_cons_zero, List.set_cons_succ, i64_w, i32_w]
       rfl
      refine one_ (i := 5) (N := some 42) #[tt_,tt_,tt_,tt_,tt_,tt_,tt_,ff_] rfl rfl (by kernel_rfl) (by decide) (fun K hK => ?_)
      refine goes_ Try.func48 (by kernel_rfl) rfl #[.int .i64 (wn : Int), .int .i64 (hn : Int)] (by rfl) rfl rfl (by (try simp only [List.map_toArray, List.map_cons, List.map_nil]); rfl) ?_
      refine (rBlank_calls _ (by rw [HKK.out]; exact HKB.out.2)).mono ?_
      rintro e w_4_6_5 ⟨v9, rfl, hR, hb⟩
      refine ⟨_, rfl, ?_⟩
      obtain ⟨go, co, hv9, hgo, hlt9, hty9⟩ := Kd.R_form hR (by rw [List.length_replicate, HKK.out]; exact HKB.out.1)
      rw [List.length_replicate, HKK.out] at hv9
      subst hv9
      have BR_4_6_5 := Aside0.mk (below_step BR_4_6.out hb)
      have V_4_6_5 := Aside0.mk (Kd.R_lower hR (below_size BR_4_6.out))
      have GO := Aside0.mk (Nat.le_trans (below_size BR_4_6.out) hgo)
      have Z_4_6_5 := Aside0.mk (blk_below Z_4_6.out hb)
      clear hR hgo hlt9 hty9 hb
      refine hK.out _ _ ⟨(blk_cell (blk_below T20.out BR_4_6_5.out) 0).trans rfl, (blk_cell (blk_below P20.out BR_4_6_5.out) 1).trans rfl⟩ (fun hHeld => ?_)
      clear hK K
      refine norm_ (a' := ?_) ?_ ?_
      rotate_left
      ·show Act.put _ (some 42) _ = _
       simp only [Act.put, List.setIfInBounds_toArray, List.set_cons_zero, List.set_cons_succ, i64_w, i32_w]
       rfl
      exact norm_ (by rfl) (hCont (go, co, gO) _ ⟨V_4_6_5.out, GO.out, Z_4_6_5.out, GEgO.out, BR_4_6_5.out⟩)
    ·skip
     refine alloc_step (cs := #[.int .i64 0, .int .i64 0, .slice none 0 0]) (t := 25) (by rfl) rfl (by first | (go_simp; done) | (go_simp; rfl)) ?_
     intro gO hg17
     have BR_6 := Aside0.mk (below_alloc BR_.out (.cells #[.int .i64 0, .int .i64 0, .slice none 0 0] 25 (0, 0)))
     have Z_6 := Aside0.mk (blk_new w20 (.cells #[.int .i64 0, .int .i64 0, .slice none 0 0] 25 (0, 0)))
     rw [← hg17] at Z_6
     have GEgO := Aside0.mk (show w20.heap.size ≤ gO by rw [hg17]; exact below_size BR_.out)
     clear hg17
     generalize w20.alloc (.cells #[.int .i64 0, .int .i64 0, .slice none 0 0] 25 (0, 0)) = w_6 at *
     refine hK.out _ _ ⟨(blk_cell (blk_below T20.out BR_6.out) 0).trans rfl, (blk_cell (blk_below P20.out BR_6.out) 1).trans rfl⟩ (fun hHeld => ?_)
     clear hK K
     refine norm_ (a' := ?_) ?_ ?_
     rotate_left
     ·show Act.put _ (some 7) _ = _
      simp only [Act.put, List.setIfInBounds_toArray, List.set_cons_zero, List.set_cons_succ, i64_w, i32_w]
      rfl
     refine one_ (i := 4) (N := some 41) #[tt_,tt_,tt_,tt_,tt_,ff_,tt_,ff_] rfl rfl (by kernel_rfl) (by decide) (fun K hK => ?_)
     refine goes_ Try.func45 (by kernel_rfl) rfl #[.int .i64 (H : Int)] (by rfl) rfl rfl (by (try simp only [List.map_toArray, List.map_cons, List.map_nil]); rfl) ?_
     refine (rHalf H _ HHB.out.2).mono ?_
     rw [HHN.out]
     rintro e w_6_4 ⟨rfl, hb⟩
     refine ⟨_, rfl, ?_⟩
     have BR_6_4 := Aside0.mk (below_step BR_6.out hb)
     have Z_6_4 := Aside0.mk (blk_below Z_6.out hb)
     clear hb
     refine hK.out _ _ ⟨(blk_cell (blk_below T20.out BR_6_4.out) 0).trans rfl, (blk_cell (blk_below P20.out BR_6_4.out) 1).trans rfl⟩ (fun hHeld => ?_)
     clear hK K
     refine norm_ (a' := ?_) ?_ ?_
     rotate_left
     ·show Act.put _ (some 41) _ = _
      simp only [Act.put, List.setIfInBounds_toArray, List.set_cons_zero, List.set_cons_succ, i64_w, i32_w]
      rfl
     refine one_ (i := 5) (N := some 42) #[tt_,tt_,tt_,tt_,tt_,tt_,tt_,ff_] rfl rfl (by kernel_rfl) (by decide) (fun K hK => ?_)
     refine goes_ Try.func48 (by kernel_rfl) rfl #[.int .i64 (wn : Int), .int .i64 (hn : Int)] (by rfl) rfl rfl (by (try simp only [List.map_toArray, List.map_cons, List.map_nil]); rfl) ?_
     refine (rBlank_calls _ (by rw [HKK.out]; exact HKB.out.2)).mono ?_
     rintro e w_6_4_5 ⟨v9, rfl, hR, hb⟩
     refine ⟨_, rfl, ?_⟩
     obtain ⟨go, co, hv9, hgo, hlt9, hty9⟩ := Kd.R_form hR (by rw [List.length_replicate, HKK.out]; exact HKB.out.1)
     rw [List.length_replicate, HKK.out] at hv9
     subst hv9
     have BR_6_4_5 := Aside0.mk (below_step BR_6_4.out hb)
     have V_6_4_5 := Aside0.mk (Kd.R_lower hR (below_size BR_6_4.out))
     have GO := Aside0.mk (Nat.le_trans (below_size BR_6_4.out) hgo)
     have Z_6_4_5 := Aside0.mk (blk_below Z_6_4.out hb)
     clear hR hgo hlt9 hty9 hb
     refine hK.out _ _ ⟨(blk_cell (blk_below T20.out BR_6_4_5.out) 0).trans rfl, (blk_cell (blk_below P20.out BR_6_4_5.out) 1).trans rfl⟩ (fun hHeld => ?_)
     clear hK K
     refine norm_ (a' := ?_) ?_ ?_
     rotate_left
     ·show Act.put _ (some 42) _ = _
      simp only [Act.put, List.setIfInBounds_toArray, List.set_cons_zero, List.set_cons_succ, i64_w, i32_w]
      rfl
     exact norm_ (by rfl) (hCont (go, co, gO) _ ⟨V_6_4_5.out, GO.out, Z_6_4_5.out, GEgO.out, BR_6_4_5.out⟩)
   rintro ⟨go, co, gO⟩ w50 ⟨hV, hgo, hZ, hge, hB⟩
   simp only at hV hgo hZ hge
   have V50 := Aside0.mk (hV)
   have GO := Aside0.mk (hgo)
   have Z50 := Aside0.mk (hZ)
   have GE := Aside0.mk (hge)
   have BR50 := Aside0.mk (hB)
   have hHeld : w50.cell? ⟨gT, 0, none⟩ = some (.int .i64 (wn : Int)) ∧ w50.cell? ⟨gP, 1, none⟩ = some (.int .i64 (H : Int)) := ⟨(blk_cell (blk_below T20.out BR50.out) 0).trans rfl, (blk_cell (blk_below P20.out BR50.out) 1).trans rfl⟩
   clear hV hgo hZ hge hB
   refine norm_ (a' := ?_) ?_ ?_
   rotate_left
   ·simp only [YtodlgdpkadkjjaaW.PrintLast.putAll, Act.put, List.setIfInBounds_toArray, List.set_cons_zero, List.set_cons_succ]
    rfl
   refine last_ (i := 7) (N := none) #[tt_,tt_,tt_,tt_,tt_,tt_,tt_,tt_] rfl rfl (by kernel_rfl) (by decide) (fun K hK => ?_)
   refine storeP_step (by rfl) rfl rfl gO (wn : Int) (hn : Int) (some ⟨go, 0, none⟩) kz co _ _ _ rfl rfl Z50.out ?_
   intro w21 hm_ hst_ hbl_
   have M21 := Aside0.mk (show M3 w20 gO wn hn go kz co w21 (List.replicate (wn * hn) 0) from ⟨Kd.R_mono (Kd.R_move (Kd.R_types V50.out Z50.out (by decide)) (fun k hk => hst_ k hk.2)) (fun _ _ => trivial), hm_, BR50.out.trans (hbl_ _ GE.out)⟩)
   clear hm_ hst_ hbl_
   refine hK.out _ _ ?_
   clear hK K
   refine done_ (by kernel_rfl) ?_
   clear hHeld
   have HD0 : Aside0 (Done (cG reduceS wn H xs) wn hn 0 0 (List.replicate (wn * hn) 0)) := ⟨Done.zero _ _ _⟩
   obtain ⟨L0, hL0⟩ : ∃ L0, List.replicate (wn * hn) 0 = L0 := ⟨_, rfl⟩
   rw [hL0] at HD0 M21
   obtain ⟨G, hG⟩ : ∃ G, cG reduceS wn H xs = G := ⟨_, rfl⟩
   have HGG := Aside0.mk hG
   rw [hG] at HD0 HRS
   clear hL0 hG V50 Z50 BR50 BR_
   go_wp2
   go_loopw [8] (fun xv wr => ∃ (x : Nat) (L : List Nat), x ≤ wn ∧ xv = .int .i64 (x : Int) ∧ Aside0 (Done G wn hn x 0 L) ∧ Aside0 (M3 w20 gO wn hn go kz co wr L)) (fun xv _ => wn - (intOf xv).toNat)
   case atStart => exact ⟨0, L0, Nat.zero_le _, rfl, HD0, M21⟩
   case round =>
    clear HD0 M21
    obtain ⟨x, L, hx, rfl, HD, HM⟩ := hrel
    have t0 := (blk_cell (blk_below T20.out HM.out.2.2) 0).trans rfl
    by_cases hxl : x < wn
    ·have c2 : decide ((x : Int) < (wn : Int)) = true := decide_eq_true (by omega)
     have HXL := Aside0.mk hxl
     have t1 := (blk_cell (blk_below T20.out HM.out.2.2) 1).trans rfl
     have t2 := (blk_cell (blk_below T20.out HM.out.2.2) 2).trans rfl
     obtain ⟨ls, hls⟩ : ∃ ls, hlv (colOf xs wn H x) H hn = ls := ⟨_, rfl⟩
     have HLS := Aside0.mk hls
     have HCL : Aside0 (∀ i, gt (colOf xs wn H x) i < 4294967296) := ⟨map_lt H (fun i => HML.out _)⟩
     have HLZ : Aside0 (∀ k, k < hn → gt ls k = G x k) := ⟨fun k hk => by
      rw [← hls, ← HGG.out]
      unfold hlv gt cG
      rw [List.getD_eq_getElem?_getD, List.getElem?_map, List.getElem?_range hk]
      rfl⟩
     clear hls
     go_wp2_with (first | (go_at_call 46; refine (rHalved L31.out HHB.out HCL.out).mono ?_; rw [HHN.out, HLS.out]; rintro e w32 ⟨A32, c32, rfl, hR, hL, hb⟩; have M32 := Aside0.mk (M3_below M31.out hb); have V32 := Aside0.mk (hR); have GLT := Aside0.mk (show go < w31.heap.size from M3_lt M31.out); clear hb hL hR) | (go_at_call 47; refine (rCol_calls (LM.out.below HM.out.2.2) HXL.out (by have := HWB2.out; omega) HHB.out.2 HMN.out).mono ?_; rintro e w31 ⟨A31, c31, rfl, hL, hb⟩; have M31 := Aside0.mk (M3_below HM.out hb); have L31 := Aside0.mk (hL); clear hb hL t0 t1 t2))
     have HD1 := HD
     obtain ⟨L1, hL1⟩ : ∃ L1, L1 = L := ⟨_, rfl⟩
     rw [← hL1] at M32 HD1
     clear HM HD hL1
     go_loopw [10] (fun yv wq => ∃ (k : Nat) (L : List Nat), k ≤ hn ∧ yv = .int .i64 (k : Int) ∧ Aside0 (Done G wn hn x k L) ∧ Aside0 (M3 w20 gO wn hn go kz co wq L) ∧ Aside0 ((nat .u32).R 50 wq w31.heap.size (fun _ => True) (.slice A32 hn c32) ls)) (fun yv _ => hn - (intOf yv).toNat)
     case atStart => exact ⟨0, L1, Nat.zero_le _, rfl, HD1, M32, V32⟩
     case round =>
      clear HD1 M32 V32 M31 L31
      obtain ⟨k, L, hk, rfl, HD, HM, HV⟩ := hrel
      by_cases hkl : k < hn
      ·have c3 : decide ((k : Int) < (hn : Int)) = true := decide_eq_true (by omega)
       have HKL := Aside0.mk hkl
       have i1 : ((k : Int) < (hn : Int)) = True := eq_true (by omega)
       obtain ⟨k1, hk1⟩ : ∃ k1, k * wn = k1 := ⟨_, rfl⟩
       obtain ⟨k2, hk2⟩ : ∃ k2, k1 + x = k2 := ⟨_, rfl⟩
       have hk2K : k2 < kz := by rw [← hk2, ← hk1, ← HKK.out, Nat.mul_comm wn hn]; exact idx_lt2 hxl hkl
       have i2 : ((k2 : Int) < (kz : Int)) = True := eq_true (by omega)
       have hKb2 := HKB.out.2
       have hk1b : k1 ≤ k2 := by omega
       have e1 : IntKind.i64.wrap ((k : Int) * (wn : Int)) = (k1 : Int) := by rw [← Int.natCast_mul, hk1]; exact wi64 (by omega) (by omega)
       have e2 : IntKind.i64.wrap ((k1 : Int) + (x : Int)) = (k2 : Int) := by rw [← hk2]; exact wi64 (by omega) (by omega)
       have HK12 : Aside0 (k * wn + x = k2) := ⟨by rw [hk1, hk2]⟩
       obtain ⟨ad, hA, hxz⟩ := C_nat (Kd.R_reads' HV.out).2.2 k (by rw [← HLS.out]; simp [hlv]; exact hkl)
       subst hA
       obtain ⟨z, hz⟩ : ∃ z, gt ls k = z := ⟨_, rfl⟩
       rw [hz] at hxz
       have HZ : Aside0 (z = G x k) := ⟨by rw [← hz]; exact HLZ.out k hkl⟩
       clear hk1 hk2 hz hkl
       go_upto_region 17 with (fail)
       have MM := Aside0.mk (M3_drew HM.out)
       have TT := Aside0.mk (blk_below T20.out MM.out.2.2)
       have VV := Aside0.mk (Kd.R_drew HV.out)
       have XX : Aside0 (wr.drew.cell? (ad.add k) = some (.int .u32 (z : Int))) := ⟨hxz⟩
       have z1 := (M3_cell MM.out k2 hk2K).1
       have zf := (M3_cell MM.out k2 hk2K).2
       clear hxz HM HV
       refine start_ (n := 14) (S := fun w' => w'.cell? ⟨gO, 2, none⟩ = some (.slice (some ⟨go, 0, none⟩) kz co) ∧ w'.cell? ⟨gT, 0, none⟩ = some (.int .i64 (wn : Int)) ∧ w'.cell? (ad.add k) = some (.int .u32 (z : Int))) (ds := [13]) #[ff_,ff_,ff_,ff_,ff_,ff_,ff_,ff_,ff_,ff_,ff_,ff_,ff_,ff_] (by kernel_rfl) rfl rfl ⟨(blk_cell MM.out.2.1 2).trans rfl, (blk_cell TT.out 0).trans rfl, XX.out⟩ (fun hHeld => ?_)
       generalize wr.drew = w33 at *
       refine pure_ (i := 0) (N := some 59) (v := ?_) (a' := ?_) #[tt_,ff_,ff_,ff_,ff_,ff_,ff_,ff_,ff_,ff_,ff_,ff_,ff_,ff_] rfl rfl (by kernel_rfl) (fun _ _ _ h => h) (Or.inl ⟨by rfl, ?_⟩) ?_ ?_
       rotate_left
       ·intro w'
        go_simp
        with_reducible rfl
       rotate_left
       ·simp only [Act.put, List.setIfInBounds_toArray, List.set_cons_zero, List.set_cons_succ, i64_w, i32_w]
        rfl
       refine pure_ (i := 2) (N := some 61) (v := ?_) (a' := ?_) #[tt_,ff_,tt_,ff_,ff_,ff_,ff_,ff_,ff_,ff_,ff_,ff_,ff_,ff_] rfl rfl (by kernel_rfl) (fun _ _ _ h => h) (Or.inl ⟨by rfl, ?_⟩) ?_ ?_
       rotate_left
       ·intro w'
        go_simp
        with_reducible rfl
       rotate_left
       ·simp only [Act.put, List.setIfInBounds_toArray, List.set_cons_zero, List.set_cons_succ, i64_w, i32_w]
        rfl
       refine pure_ (i := 3) (N := some 62) (v := ?_) (a' := ?_) #[tt_,ff_,tt_,tt_,ff_,ff_,ff_,ff_,ff_,ff_,ff_,ff_,ff_,ff_] rfl rfl (by kernel_rfl) (fun _ _ _ h => h) (Or.inl ⟨by rfl, ?_⟩) ?_ ?_
       rotate_left
       ·intro w'
        go_simp
        with_reducible rfl
       rotate_left
       ·simp only [Act.put, List.setIfInBounds_toArray, List.set_cons_zero, List.set_cons_succ, i64_w, i32_w]
        rfl
       refine pure_ (i := 6) (N := some 65) (v := ?_) (a' := ?_) #[tt_,ff_,tt_,tt_,ff_,ff_,tt_,ff_,ff_,ff_,ff_,ff_,ff_,ff_] rfl rfl (by kernel_rfl) (fun _ _ _ h => h) (Or.inl ⟨by rfl, ?_⟩) ?_ ?_
       rotate_left
       ·intro w'
        go_simp
        with_reducible rfl
       rotate_left
       ·simp only [Act.put, List.setIfInBounds_toArray, List.set_cons_zero, List.set_cons_succ, i64_w, i32_w]
        rfl
       refine pure_ (i := 8) (N := some 67) (v := ?_) (a' := ?_) #[tt_,ff_,tt_,tt_,ff_,ff_,tt_,ff_,tt_,ff_,ff_,ff_,ff_,ff_] rfl rfl (by kernel_rfl) (fun _ _ _ h => h) (Or.inl ⟨by rfl, ?_⟩) ?_ ?_
       rotate_left
       ·intro w'
        go_simp
        with_reducible rfl
       rotate_left
       ·simp only [Act.put, List.setIfInBounds_toArray, List.set_cons_zero, List.set_cons_succ, i64_w, i32_w]
        rfl
       refine pure_ (i := 9) (N := some 68) (v := ?_) (a' := ?_) #[tt_,ff_,tt_,tt_,ff_,ff_,tt_,ff_,tt_,tt_,ff_,ff_,ff_,ff_] rfl rfl (by kernel_rfl) (fun _ _ _ h => h) (Or.inl ⟨by rfl, ?_⟩) ?_ ?_
       rotate_left
       ·intro w'
        go_simp
        with_reducible rfl
       rotate_left
       ·simp only [Act.put, List.setIfInBounds_toArray, List.set_cons_zero, List.set_cons_succ, i64_w, i32_w]
        rfl
       refine pure_ (i := 10) (N := some 69) (v := ?_) (a' := ?_) #[tt_,ff_,tt_,tt_,ff_,ff_,tt_,ff_,tt_,tt_,tt_,ff_,ff_,ff_] rfl rfl (by kernel_rfl) (fun _ _ _ h => h) (Or.inl ⟨by rfl, ?_⟩) ?_ ?_
       rotate_left
       ·intro w'
        go_simp
        with_reducible rfl
       rotate_left
       ·simp only [Act.put, List.setIfInBounds_toArray, List.set_cons_zero, List.set_cons_succ, i64_w, i32_w]
        rfl
       refine take_ (i := 1) (N := some 60) (v := ?_) (a' := ?_) #[tt_,tt_,tt_,tt_,ff_,ff_,tt_,ff_,tt_,tt_,tt_,ff_,ff_,ff_] rfl rfl (by kernel_rfl) (fun _ _ _ h => h) (Or.inl ⟨by rfl, ?_⟩) hHeld ?_ ?_
       rotate_left
       ·rintro w' ⟨s0, s1, s2⟩
        go_simp
        with_reducible rfl
       rotate_left
       ·simp only [Act.put, List.setIfInBounds_toArray, List.set_cons_zero, List.set_cons_succ, i64_w, i32_w]
        rfl
       refine take_ (i := 4) (N := some 63) (v := ?_) (a' := ?_) #[tt_,tt_,tt_,tt_,tt_,ff_,tt_,ff_,tt_,tt_,tt_,ff_,ff_,ff_] rfl rfl (by kernel_rfl) (fun _ _ _ h => h) (Or.inl ⟨by rfl, ?_⟩) hHeld ?_ ?_
       rotate_left
       ·rintro w' ⟨s0, s1, s2⟩
        go_simp
        with_reducible rfl
       rotate_left
       ·simp only [Act.put, List.setIfInBounds_toArray, List.set_cons_zero, List.set_cons_succ, i64_w, i32_w]
        rfl
       refine pure_ (i := 5) (N := some 64) (v := ?_) (a' := ?_) #[tt_,tt_,tt_,tt_,tt_,tt_,tt_,ff_,tt_,tt_,tt_,ff_,ff_,ff_] rfl rfl (by kernel_rfl) (fun _ _ _ h => h) (Or.inl ⟨by rfl, ?_⟩) ?_ ?_
       rotate_left
       ·intro w'
        go_simp
        with_reducible rfl
       rotate_left
       ·simp only [Act.put, List.setIfInBounds_toArray, List.set_cons_zero, List.set_cons_succ, i64_w, i32_w]
        rfl
       refine pure_ (i := 7) (N := some 66) (v := ?_) (a' := ?_) #[tt_,tt_,tt_,tt_,tt_,tt_,tt_,tt_,tt_,tt_,tt_,ff_,ff_,ff_] rfl rfl (by kernel_rfl) (fun _ _ _ h => h) (Or.inl ⟨by rfl, ?_⟩) ?_ ?_
       rotate_left
       ·intro w'
        go_simp
        with_reducible rfl
       rotate_left
       ·simp only [Act.put, List.setIfInBounds_toArray, List.set_cons_zero, List.set_cons_succ, i64_w, i32_w]
        rfl
       refine take_ (i := 11) (N := some 70) (v := ?_) (a' := ?_) #[tt_,tt_,tt_,tt_,tt_,tt_,tt_,tt_,tt_,tt_,tt_,tt_,ff_,ff_] rfl rfl (by kernel_rfl) (fun _ _ _ h => h) (Or.inl ⟨by rfl, ?_⟩) hHeld ?_ ?_
       rotate_left
       ·rintro w' ⟨s0, s1, s2⟩
        go_simp
        with_reducible rfl
       rotate_left
       ·simp only [Act.put, List.setIfInBounds_toArray, List.set_cons_zero, List.set_cons_succ, i64_w, i32_w]
        rfl
       refine pure_ (i := 12) (N := some 71) (v := ?_) (a' := ?_) #[tt_,tt_,tt_,tt_,tt_,tt_,tt_,tt_,tt_,tt_,tt_,tt_,tt_,ff_] rfl rfl (by kernel_rfl) (fun _ _ _ h => h) (Or.inl ⟨by rfl, ?_⟩) ?_ ?_
       rotate_left
       ·intro w'
        go_simp
        with_reducible rfl
       rotate_left
       ·simp only [Act.put, List.setIfInBounds_toArray, List.set_cons_zero, List.set_cons_succ, i64_w, i32_w]
        rfl
       refine last_ (i := 13) (N := none) #[tt_,tt_,tt_,tt_,tt_,tt_,tt_,tt_,tt_,tt_,tt_,tt_,tt_,tt_] rfl rfl (by kernel_rfl) (by decide) (fun K hK => ?_)
       refine skip_ (w1 := ?_) (by rfl) rfl ?_ ?_
       rotate_left
       ·go_simp
        rfl
       refine hK.out _ _ ?_
       clear hK K
       refine done_ (by kernel_rfl) ?_
       have MN := Aside0.mk (M3_put MM.out k2 z GO.out)
       have VN := Aside0.mk (R_setn (g := go) (i := k2) (u := .int .u32 (z : Int)) VV.out GLT.out)
       have DN : Aside0 (Done G wn hn x (k + 1) (L.set k2 z)) := ⟨by rw [HZ.out, ← HK12.out]; exact HD.out.put HXL.out HKL.out⟩
       generalize w33.setCell ⟨go, k2, none⟩ (.int .u32 (z : Int)) = wm at *
       clear z1 zf XX MM TT VV hHeld
       go_wp2
       go_roundw
       case measure => simp [intOf]; have := HKL.out; omega
       case rel => exact ⟨k + 1, L.set k2 z, HKL.out, by go_num, DN, MN, VN⟩
      ·obtain rfl : hn = k := by omega
       have c3 : decide ((hn : Int) < (hn : Int)) = false := decide_eq_false (by omega)
       have DN := Aside0.mk HD.out.next
       clear HD HV
       go_wp2
       go_roundw
       case measure => simp [intOf]; have := HXL.out; omega
       case rel => exact ⟨x + 1, L, HXL.out, by go_num, DN, HM⟩
    ·obtain rfl : wn = x := by omega
     have c2 : decide ((wn : Int) < (wn : Int)) = false := decide_eq_false (by omega)
     have o0 := (blk_cell HM.out.2.1 0).trans rfl
     have o1 := (blk_cell HM.out.2.1 1).trans rfl
     have o2 := (blk_cell HM.out.2.1 2).trans rfl
     have RR := Aside0.mk (blk_below R20.out HM.out.2.2)
     have BB := Aside0.mk (below_step B20.out HM.out.2.2)
     have e5 : L = resZ reduceS W H wn hn p := (HD.out.all hwb.1).trans HRS.out
     have E5 := Aside0.mk e5
     clear e5 HD
     go_wp2_with (first | ((with_reducible refine gate_store (p := 2) rfl ?_); refine storeP_event rfl rfl rfl gR (wn : Int) (hn : Int) (some ⟨go, 0, none⟩) kz co _ _ _ rfl rfl RR.out ?_; intro w40 hm_ hst_ hbl_; have R40 := Aside0.mk (hm_); have V40 := Aside0.mk (Kd.R_mono (Kd.R_move (Kd.R_types HM.out.1 RR.out (by decide)) (fun k hk => hst_ k hk.2)) (fun _ _ => trivial)); have B40 := Aside0.mk (BB.out.trans (hbl_ _ GR.out)); clear hm_ hst_ hbl_))
     refine bodyPost_ret (results_ct rfl _ _ gR 25 #[.int .i64 (wn : Int), .int .i64 (hn : Int), .slice (some ⟨go, 0, none⟩) kz co] (0, 0) _ rfl R40.out Try.underlying25 rfl (by kernel_rfl)) rfl ?_
     exact ⟨_, rfl, by rw [← E5.out]; exact Kd.R_lower V40.out B20.out.size, B40.out⟩
end Go.Proofs.Ytodlgdpkadkjjaa.A
end
section
set_option linter.unusedVariables false
set_option linter.unusedSimpArgs false
namespace Go.Proofs.Ytodlgdpkadkjjaa.A
open Go.RowKit Go.Shelf Go.Proofs.YtodlgdpkadkjjaaW.PrintWords Go.Proofs.YtodlgdpkadkjjaaW.PrintLast Go.Proofs.YtodlgdpkadkjjaaW.PrintMore Go.Proofs.Ytodlgdpkadkjjaa.PPyramidLevels
set_option maxHeartbeats 2000000 in
set_option maxRecDepth 100000 in
theorem rReduce_bad (x y : Int) (A : Option Addr) (n cap : Nat) (w : World) (hn : n < 9223372036854775808) (hE : checkE x y n ≠ 0) :
    Calls Try.prog 14 #[.agg #[.int .i64 x, .int .i64 y, .slice A n cap]] w fun e w' => e = .returned (.tuple #[.agg #[.int .i64 0, .int .i64 0, .slice none 0 0], .int .i64 ((checkE x y n : Nat) : Int)]) ∧ Below w.heap.size w w' := by
 have hu25 := Try.underlying25
 obtain ⟨c, hc⟩ : ∃ c, checkE x y n = c := ⟨_, rfl⟩
 have HE := Aside0.mk hc
 have HNL := Aside0.mk hn
 rw [hc] at hE ⊢
 have t1 : ((c : Int) != 0) = true := by rw [bne_iff_ne]; omega
 clear hc hn hE
 go_enter Try.func14, Try.ntmps14
 go_wp2_with (first | ((with_reducible refine gate_dst (N := 1) rfl ?_); refine box_event ?hg (N := 1) ?hd (cs := #[.int .i64 x, .int .i64 y, .slice A n cap]) (t := 25) ?hr ?_; (case hd => rfl); (case hg => rfl); (case hr => first | (go_simp; done) | (go_simp; rfl)); intro gP hg_ w1 hm_ hb_; have P1 := Aside0.mk (hm_); have B1 := Aside0.mk (hb_); clear hm_ hb_ hg_) | ((with_reducible refine gate_dst (N := 2) rfl ?_); refine box_event ?hg (N := 2) ?hd (cs := #[.int .i64 0, .int .i64 0, .slice none 0 0]) (t := 25) ?hr ?_; (case hd => rfl); (case hg => rfl); (case hr => first | (go_simp; done) | (go_simp; rfl)); intro gR hg_ w2 hm_ hb_; have R2 := Aside0.mk (hm_); have P2 := Aside0.mk (blk_below P1.out hb_); have B2 := Aside0.mk (below_step B1.out hb_); have GR := Aside0.mk (show w.heap.size ≤ gR by rw [hg_]; exact below_size B1.out); have p0 := (blk_cell P2.out 0).trans rfl; have p1 := (blk_cell P2.out 1).trans rfl; have p2 := (blk_cell P2.out 2).trans rfl; clear hm_ hb_ hg_ P1 B1) | (go_at_call 44; refine (rCheck_calls x y A n cap _ HNL.out).mono ?_; rw [HE.out]; rintro e w3 ⟨rfl, hb⟩; have P3 := Aside0.mk (blk_below P2.out hb); have R3 := Aside0.mk (blk_below R2.out hb); have B3 := Aside0.mk (below_step B2.out hb); clear hb p0 p1 p2) | ((with_reducible refine gate_store (p := 2) rfl ?_); refine storeP_event rfl rfl rfl gR 0 0 none 0 0 _ _ _ rfl rfl R3.out ?_; intro w4 hm_ hst_ hbl_; have R40 := Aside0.mk (hm_); have B40 := Aside0.mk (B3.out.trans (hbl_ _ GR.out)); clear hm_ hst_ hbl_))
 refine bodyPost_ret (results_ct rfl _ _ gR 25 #[.int .i64 0, .int .i64 0, .slice none 0 0] (0, 0) _ rfl R40.out Try.underlying25 rfl (by kernel_rfl)) rfl ?_
 exact ⟨rfl, B40.out⟩
set_option maxHeartbeats 2000000 in
set_option maxRecDepth 100000 in
theorem rExpand_bad (x y : Int) (A : Option Addr) (n cap : Nat) (u v : Int) (w : World) (hn : n < 9223372036854775808) (hE : checkE x y n ≠ 0) :
    Calls Try.prog 15 #[.agg #[.int .i64 x, .int .i64 y, .slice A n cap], .int .i64 u, .int .i64 v] w fun e w' => e = .returned (.tuple #[.agg #[.int .i64 0, .int .i64 0, .slice none 0 0], .int .i64 ((checkE x y n : Nat) : Int)]) ∧ Below w.heap.size w w' := by
 have hu25 := Try.underlying25
 obtain ⟨c, hc⟩ : ∃ c, checkE x y n = c := ⟨_, rfl⟩
 have HE := Aside0.mk hc
 have HNL := Aside0.mk hn
 rw [hc] at hE ⊢
 have t1 : ((c : Int) != 0) = true := by rw [bne_iff_ne]; omega
 clear hc hn hE
 go_enter Try.func15, Try.ntmps15
 go_wp2_with (first | ((with_reducible refine gate_dst (N := 3) rfl ?_); refine box_event ?hg (N := 3) ?hd (cs := #[.int .i64 x, .int .i64 y, .slice A n cap]) (t := 25) ?hr ?_; (case hd => rfl); (case hg => rfl); (case hr => first | (go_simp; done) | (go_simp; rfl)); intro gP hg_ w1 hm_ hb_; have P1 := Aside0.mk (hm_); have B1 := Aside0.mk (hb_); clear hm_ hb_ hg_) | ((with_reducible refine gate_dst (N := 6) rfl ?_); refine box_event ?hg (N := 6) ?hd (cs := #[.int .i64 0, .int .i64 0, .slice none 0 0]) (t := 25) ?hr ?_; (case hd => rfl); (case hg => rfl); (case hr => first | (go_simp; done) | (go_simp; rfl)); intro gR hg_ w2 hm_ hb_; have R2 := Aside0.mk (hm_); have P2 := Aside0.mk (blk_below P1.out hb_); have B2 := Aside0.mk (below_step B1.out hb_); have GR := Aside0.mk (show w.heap.size ≤ gR by rw [hg_]; exact below_size B1.out); have p0 := (blk_cell P2.out 0).trans rfl; have p1 := (blk_cell P2.out 1).trans rfl; have p2 := (blk_cell P2.out 2).trans rfl; clear hm_ hb_ hg_ P1 B1) | (go_at_call 44; refine (rCheck_calls x y A n cap _ HNL.out).mono ?_; rw [HE.out]; rintro e w3 ⟨rfl, hb⟩; have P3 := Aside0.mk (blk_below P2.out hb); have R3 := Aside0.mk (blk_below R2.out hb); have B3 := Aside0.mk (below_step B2.out hb); clear hb p0 p1 p2) | ((with_reducible refine gate_store (p := 6) rfl ?_); refine storeP_event rfl rfl rfl gR 0 0 none 0 0 _ _ _ rfl rfl R3.out ?_; intro w4 hm_ hst_ hbl_; have R40 := Aside0.mk (hm_); have B40 := Aside0.mk (B3.out.trans (hbl_ _ GR.out)); clear hm_ hst_ hbl_))
 refine bodyPost_ret (results_ct rfl _ _ gR 25 #[.int .i64 0, .int .i64 0, .slice none 0 0] (0, 0) _ rfl R40.out Try.underlying25 rfl (by kernel_rfl)) rfl ?_
 exact ⟨rfl, B40.out⟩
set_option maxHeartbeats 4000000 in
set_option maxRecDepth 100000 in
theorem rExpand_size (W H : Nat) (p : List Nat) (A : Option Addr) (n cap : Nat) (u v : Int) (w : World) (hp : (Pl.mk W H p).ok) (hn : p.length = n) (hS : sizeB u v = false) :
    Calls Try.prog 15 #[.agg #[.int .i64 (W : Int), .int .i64 (H : Int), .slice A n cap], .int .i64 u, .int .i64 v] w fun e w' => e = .returned (.tuple #[.agg #[.int .i64 0, .int .i64 0, .slice none 0 0], .int .i64 141]) ∧ Below w.heap.size w w' := by
 have hu25 := Try.underlying25
 have HE : Aside0 (checkE (W : Int) (H : Int) n = 0) := ⟨by rw [← hn]; exact hp.checkE⟩
 obtain ⟨p1, p2, p3, p4, p5, p6, p7⟩ := hp
 have p5 : W * H ≤ 65536 := p5
 have p6 : p.length = W * H := p6
 have HNL : Aside0 (n < 9223372036854775808) := ⟨by omega⟩
 have HSB := Aside0.mk hS
 clear p1 p2 p3 p4 p5 p6 p7 hn hS
 go_enter Try.func15, Try.ntmps15
 go_upto_region 4 with (first | ((with_reducible refine gate_dst (N := 3) rfl ?_); refine box_event ?hg (N := 3) ?hd (cs := #[.int .i64 (W : Int), .int .i64 (H : Int), .slice A n cap]) (t := 25) ?hr ?_; (case hd => rfl); (case hg => rfl); (case hr => first | (go_simp; done) | (go_simp; rfl)); intro gP hg_ w1 hm_ hb_; have P1 := Aside0.mk (hm_); have B1 := Aside0.mk (hb_); clear hm_ hb_ hg_) | ((with_reducible refine gate_dst (N := 6) rfl ?_); refine box_event ?hg (N := 6) ?hd (cs := #[.int .i64 0, .int .i64 0, .slice none 0 0]) (t := 25) ?hr ?_; (case hd => rfl); (case hg => rfl); (case hr => first | (go_simp; done) | (go_simp; rfl)); intro gR hg_ w2 hm_ hb_; have R2 := Aside0.mk (hm_); have P2 := Aside0.mk (blk_below P1.out hb_); have B2 := Aside0.mk (below_step B1.out hb_); have GR := Aside0.mk (show w.heap.size ≤ gR by rw [hg_]; exact below_size B1.out); have p0 := (blk_cell P2.out 0).trans rfl; have p1 := (blk_cell P2.out 1).trans rfl; have p2 := (blk_cell P2.out 2).trans rfl; clear hm_ hb_ hg_ P1 B1) | (go_at_call 44; refine (rCheck_calls (W : Int) (H : Int) A n cap _ HNL.out).mono ?_; rw [HE.out]; rintro e w3 ⟨rfl, hb⟩; have P3 := Aside0.mk (blk_below P2.out hb); have R3 := Aside0.mk (blk_below R2.out hb); have B3 := Aside0.mk (below_step B2.out hb); clear hb p0 p1 p2))
 have P4 := Aside0.mk (blk_drew P3.out)
 have R4 := Aside0.mk (blk_drew R3.out)
 have B4 : Aside0 (Below w.heap.size w w3.drew) := ⟨below_drew1 B3.out⟩
 clear P3 R3 B3
 refine start_ (n := 18) (S := fun w' => w'.cell? ⟨gP, 0, none⟩ = some (.int .i64 (W : Int)) ∧ w'.cell? ⟨gP, 1, none⟩ = some (.int .i64 (H : Int))) (ds := []) #[ff_,ff_,ff_,ff_,ff_,ff_,ff_,ff_,ff_,ff_,ff_,ff_,ff_,ff_,ff_,ff_,ff_,ff_] (by kernel_rfl) rfl rfl ⟨(blk_cell P4.out 0).trans rfl, (blk_cell P4.out 1).trans rfl⟩ (fun hHeld => ?_)
 generalize w3.drew = w4 at *
 refine pure_ (i := 0) (N := some 21) (v := ?_) (a' := ?_) #[tt_,ff_,ff_,ff_,ff_,ff_,ff_,ff_,ff_,ff_,ff_,ff_,ff_,ff_,ff_,ff_,ff_,ff_] rfl rfl (by kernel_rfl) (fun _ _ _ h => h) (Or.inl ⟨by rfl, ?_⟩) ?_ ?_
 rotate_left
 ·intro w'
  go_simp
  with_reducible rfl
 rotate_left
 ·simp only [Act.put, List.setIfInBounds_toArray, List.set_cons_zero, List.set_cons_succ, i64_w, i32_w]
  rfl
 refine pure_ (i := 1) (N := some 22) (v := ?_) (a' := ?_) #[tt_,tt_,ff_,ff_,ff_,ff_,ff_,ff_,ff_,ff_,ff_,ff_,ff_,ff_,ff_,ff_,ff_,ff_] rfl rfl (by kernel_rfl) (fun _ _ _ h => h) (Or.inl ⟨by rfl, ?_⟩) ?_ ?_
 rotate_left
 ·intro w'
  go_simp
  with_reducible rfl
 rotate_left
 ·simp only [Act.put, List.setIfInBounds_toArray, List.set_cons_zero, List.set_cons_succ, i64_w, i32_w]
  rfl
 refine one_ (i := 2) (N := some 23) #[tt_,tt_,tt_,ff_,ff_,ff_,ff_,ff_,ff_,ff_,ff_,ff_,ff_,ff_,ff_,ff_,ff_,ff_] rfl rfl (by kernel_rfl) (by decide) (fun K hK => ?_)
 refine goes_ Try.func49 (by kernel_rfl) rfl #[.int .i64 u, .int .i64 v] (by rfl) rfl rfl (by (try simp only [List.map_toArray, List.map_cons, List.map_nil]); rfl) ?_
 with_reducible refine (rSize_calls u v _).mono ?_
 rw [HSB.out]
 rintro e _ ⟨rfl, rfl⟩
 refine ⟨_, rfl, ?_⟩
 refine hK.out _ _ ⟨(blk_cell P4.out 0).trans rfl, (blk_cell P4.out 1).trans rfl⟩ (fun hHeld => ?_)
 clear hK K
 refine norm_ (a' := ?_) ?_ ?_
 rotate_left
 ·show Act.put _ (some 23) _ = _
  simp only [Act.put, List.setIfInBounds_toArray, List.set_cons_zero, List.set_cons_succ, i64_w, i32_w]
  rfl
 refine pure_ (i := 3) (N := some 24) (v := ?_) (a' := ?_) #[tt_,tt_,tt_,tt_,ff_,ff_,ff_,ff_,ff_,ff_,ff_,ff_,ff_,ff_,ff_,ff_,ff_,ff_] rfl rfl (by kernel_rfl) (fun _ _ _ h => h) (Or.inl ⟨by rfl, ?_⟩) ?_ ?_
 rotate_left
 ·intro w'
  go_simp
  with_reducible rfl
 rotate_left
 ·simp only [Act.put, List.setIfInBounds_toArray, List.set_cons_zero, List.set_cons_succ, i64_w, i32_w]
  rfl
 refine pure_ (i := 4) (N := some 25) (v := ?_) (a' := ?_) #[tt_,tt_,tt_,tt_,tt_,ff_,ff_,ff_,ff_,ff_,ff_,ff_,ff_,ff_,ff_,ff_,ff_,ff_] rfl rfl (by kernel_rfl) (fun _ _ _ h => h) (Or.inl ⟨by rfl, ?_⟩) ?_ ?_
 rotate_left
 ·intro w'
  go_simp
  with_reducible rfl
 rotate_left
 ·simp only [Act.put, List.setIfInBounds_toArray, List.set_cons_zero, List.set_cons_succ, i64_w, i32_w]
  rfl
 refine pure_ (i := 5) (N := some 26) (v := undef) (a' := ?_) #[tt_,tt_,tt_,tt_,tt_,tt_,ff_,ff_,ff_,ff_,ff_,ff_,ff_,ff_,ff_,ff_,ff_,ff_] rfl rfl (by kernel_rfl) (fun _ _ _ h => h) (Or.inr ⟨by rfl, rfl⟩) ?_ ?_
 rotate_left
 ·simp only [Act.put, List.setIfInBounds_toArray, List.set_cons_zero, List.set_cons_succ, i64_w, i32_w]
  rfl
 refine pure_ (i := 6) (N := some 27) (v := undef) (a' := ?_) #[tt_,tt_,tt_,tt_,tt_,tt_,tt_,ff_,ff_,ff_,ff_,ff_,ff_,ff_,ff_,ff_,ff_,ff_] rfl rfl (by kernel_rfl) (fun _ _ _ h => h) (Or.inr ⟨by rfl, rfl⟩) ?_ ?_
 rotate_left
 ·simp only [Act.put, List.setIfInBounds_toArray, List.set_cons_zero, List.set_cons_succ, i64_w, i32_w]
  rfl
 refine pure_ (i := 7) (N := some 28) (v := undef) (a' := ?_) #[tt_,tt_,tt_,tt_,tt_,tt_,tt_,tt_,ff_,ff_,ff_,ff_,ff_,ff_,ff_,ff_,ff_,ff_] rfl rfl (by kernel_rfl) (fun _ _ _ h => h) (Or.inr ⟨by rfl, rfl⟩) ?_ ?_
 rotate_left
 ·simp only [Act.put, List.setIfInBounds_toArray, List.set_cons_zero, List.set_cons_succ, i64_w, i32_w]
  rfl
 refine pure_ (i := 8) (N := some 29) (v := undef) (a' := ?_) #[tt_,tt_,tt_,tt_,tt_,tt_,tt_,tt_,tt_,ff_,ff_,ff_,ff_,ff_,ff_,ff_,ff_,ff_] rfl rfl (by kernel_rfl) (fun _ _ _ h => h) (Or.inr ⟨by rfl, rfl⟩) ?_ ?_
 rotate_left
 ·simp only [Act.put, List.setIfInBounds_toArray, List.set_cons_zero, List.set_cons_succ, i64_w, i32_w]
  rfl
 refine pure_ (i := 9) (N := some 30) (v := undef) (a' := ?_) #[tt_,tt_,tt_,tt_,tt_,tt_,tt_,tt_,tt_,tt_,ff_,ff_,ff_,ff_,ff_,ff_,ff_,ff_] rfl rfl (by kernel_rfl) (fun _ _ _ h => h) (Or.inr ⟨by rfl, rfl⟩) ?_ ?_
 rotate_left
 ·simp only [Act.put, List.setIfInBounds_toArray, List.set_cons_zero, List.set_cons_succ, i64_w, i32_w]
  rfl
 refine pure_ (i := 10) (N := some 31) (v := ?_) (a' := ?_) #[tt_,tt_,tt_,tt_,tt_,tt_,tt_,tt_,tt_,tt_,tt_,ff_,ff_,ff_,ff_,ff_,ff_,ff_] rfl rfl (by kernel_rfl) (fun _ _ _ h => h) (Or.inl ⟨by rfl, ?_⟩) ?_ ?_
 rotate_left
 ·intro w'
  go_simp
  with_reducible rfl
 rotate_left
 ·simp only [Act.put, List.setIfInBounds_toArray, List.set_cons_zero, List.set_cons_succ, i64_w, i32_w]
  rfl
 refine pure_ (i := 11) (N := some 32) (v := ?_) (a' := ?_) #[tt_,tt_,tt_,tt_,tt_,tt_,tt_,tt_,tt_,tt_,tt_,tt_,ff_,ff_,ff_,ff_,ff_,ff_] rfl rfl (by kernel_rfl) (fun _ _ _ h => h) (Or.inl ⟨by rfl, ?_⟩) ?_ ?_
 rotate_left
 ·intro w'
  go_simp
  with_reducible rfl
 rotate_left
 ·simp only [Act.put, List.setIfInBounds_toArray, List.set_cons_zero, List.set_cons_succ, i64_w, i32_w]
  rfl
 refine pure_ (i := 12) (N := some 33) (v := undef) (a' := ?_) #[tt_,tt_,tt_,tt_,tt_,tt_,tt_,tt_,tt_,tt_,tt_,tt_,tt_,ff_,ff_,ff_,ff_,ff_] rfl rfl (by kernel_rfl) (fun _ _ _ h => h) (Or.inr ⟨by rfl, rfl⟩) ?_ ?_
 rotate_left
 ·simp only [Act.put, List.setIfInBounds_toArray, List.set_cons_zero, List.set_cons_succ, i64_w, i32_w]
  rfl
 refine pure_ (i := 13) (N := some 34) (v := undef) (a' := ?_) #[tt_,tt_,tt_,tt_,tt_,tt_,tt_,tt_,tt_,tt_,tt_,tt_,tt_,tt_,ff_,ff_,ff_,ff_] rfl rfl (by kernel_rfl) (fun _ _ _ h => h) (Or.inr ⟨by rfl, rfl⟩) ?_ ?_
 rotate_left
 ·simp only [Act.put, List.setIfInBounds_toArray, List.set_cons_zero, List.set_cons_succ, i64_w, i32_w]
  rfl
 refine pure_ (i := 14) (N := some 35) (v := undef) (a' := ?_) #[tt_,tt_,tt_,tt_,tt_,tt_,tt_,tt_,tt_,tt_,tt_,tt_,tt_,tt_,tt_,ff_,ff_,ff_] rfl rfl (by kernel_rfl) (fun _ _ _ h => h) (Or.inr ⟨by rfl, rfl⟩) ?_ ?_
 rotate_left
 ·simp only [Act.put, List.setIfInBounds_toArray, List.set_cons_zero, List.set_cons_succ, i64_w, i32_w]
  rfl
 refine pure_ (i := 15) (N := some 36) (v := undef) (a' := ?_) #[tt_,tt_,tt_,tt_,tt_,tt_,tt_,tt_,tt_,tt_,tt_,tt_,tt_,tt_,tt_,tt_,ff_,ff_] rfl rfl (by kernel_rfl) (fun _ _ _ h => h) (Or.inr ⟨by rfl, rfl⟩) ?_ ?_
 rotate_left
 ·simp only [Act.put, List.setIfInBounds_toArray, List.set_cons_zero, List.set_cons_succ, i64_w, i32_w]
  rfl
 refine pure_ (i := 16) (N := some 37) (v := undef) (a' := ?_) #[tt_,tt_,tt_,tt_,tt_,tt_,tt_,tt_,tt_,tt_,tt_,tt_,tt_,tt_,tt_,tt_,tt_,ff_] rfl rfl (by kernel_rfl) (fun _ _ _ h => h) (Or.inr ⟨by rfl, rfl⟩) ?_ ?_
 rotate_left
 ·simp only [Act.put, List.setIfInBounds_toArray, List.set_cons_zero, List.set_cons_succ, i64_w, i32_w]
  rfl
 refine pure_ (i := 17) (N := some 38) (v := ?_) (a' := ?_) #[tt_,tt_,tt_,tt_,tt_,tt_,tt_,tt_,tt_,tt_,tt_,tt_,tt_,tt_,tt_,tt_,tt_,tt_] rfl rfl (by kernel_rfl) (fun _ _ _ h => h) (Or.inl ⟨by rfl, ?_⟩) ?_ ?_
 rotate_left
 ·intro w'
  go_simp
  with_reducible rfl
 rotate_left
 ·simp only [Act.put, List.setIfInBounds_toArray, List.set_cons_zero, List.set_cons_succ, i64_w, i32_w]
  rfl
 refine done_ (by kernel_rfl) ?_
 clear hHeld
 go_wp2_with (first | ((with_reducible refine gate_store (p := 6) rfl ?_); refine storeP_event rfl rfl rfl gR 0 0 none 0 0 _ _ _ rfl rfl R4.out ?_; intro w7 hm_ hst_ hbl_; have R40 := Aside0.mk (hm_); have B40 := Aside0.mk (B4.out.trans (hbl_ _ GR.out)); clear hm_ hst_ hbl_))
 refine bodyPost_ret (results_ct rfl _ _ gR 25 #[.int .i64 0, .int .i64 0, .slice none 0 0] (0, 0) _ rfl R40.out Try.underlying25 rfl (by kernel_rfl)) rfl ?_
 exact ⟨rfl, B40.out⟩
set_option maxHeartbeats 4000000 in
set_option maxRecDepth 100000 in
theorem rExpand_wide (W H : Nat) (p : List Nat) (A : Option Addr) (n cap : Nat) (wn hn : Nat) (w : World) (hp : (Pl.mk W H p).ok) (hnl : p.length = n) (hS : 0 < wn ∧ 0 < hn ∧ wn ≤ 1024 ∧ hn ≤ 1024 ∧ wn * hn ≤ 65536) (hW : hf wn ≠ W) :
    Calls Try.prog 15 #[.agg #[.int .i64 (W : Int), .int .i64 (H : Int), .slice A n cap], .int .i64 (wn : Int), .int .i64 (hn : Int)] w fun e w' => e = .returned (.tuple #[.agg #[.int .i64 0, .int .i64 0, .slice none 0 0], .int .i64 141]) ∧ Below w.heap.size w w' := by
 have hu25 := Try.underlying25
 have HE : Aside0 (checkE (W : Int) (H : Int) n = 0) := ⟨by rw [← hnl]; exact hp.checkE⟩
 obtain ⟨p1, p2, p3, p4, p5, p6, p7⟩ := hp
 have p5 : W * H ≤ 65536 := p5
 have p6 : p.length = W * H := p6
 have HNL : Aside0 (n < 9223372036854775808) := ⟨by omega⟩
 have HSO : Aside0 (sizeB (wn : Int) (hn : Int) = true) := ⟨sizeB_nat hS.1 hS.2.1 hS.2.2.1 hS.2.2.2.1 hS.2.2.2.2⟩
 have HWN : Aside0 (wn ≤ 1024) := ⟨by omega⟩
 have HHN : Aside0 (hn ≤ 1024) := ⟨by omega⟩
 have t1 : (((hf wn : Nat) : Int) != (W : Int)) = true := by rw [bne_iff_ne]; omega
 clear p1 p2 p3 p4 p5 p6 p7 hnl hS hW
 go_enter Try.func15, Try.ntmps15
 go_upto_region 4 with (first | ((with_reducible refine gate_dst (N := 3) rfl ?_); refine box_event ?hg (N := 3) ?hd (cs := #[.int .i64 (W : Int), .int .i64 (H : Int), .slice A n cap]) (t := 25) ?hr ?_; (case hd => rfl); (case hg => rfl); (case hr => first | (go_simp; done) | (go_simp; rfl)); intro gP hg_ w1 hm_ hb_; have P1 := Aside0.mk (hm_); have B1 := Aside0.mk (hb_); clear hm_ hb_ hg_) | ((with_reducible refine gate_dst (N := 6) rfl ?_); refine box_event ?hg (N := 6) ?hd (cs := #[.int .i64 0, .int .i64 0, .slice none 0 0]) (t := 25) ?hr ?_; (case hd => rfl); (case hg => rfl); (case hr => first | (go_simp; done) | (go_simp; rfl)); intro gR hg_ w2 hm_ hb_; have R2 := Aside0.mk (hm_); have P2 := Aside0.mk (blk_below P1.out hb_); have B2 := Aside0.mk (below_step B1.out hb_); have GR := Aside0.mk (show w.heap.size ≤ gR by rw [hg_]; exact below_size B1.out); have p0 := (blk_cell P2.out 0).trans rfl; have p1 := (blk_cell P2.out 1).trans rfl; have p2 := (blk_cell P2.out 2).trans rfl; clear hm_ hb_ hg_ P1 B1) | (go_at_call 44; refine (rCheck_calls (W : Int) (H : Int) A n cap _ HNL.out).mono ?_; rw [HE.out]; rintro e w3 ⟨rfl, hb⟩; have P3 := Aside0.mk (blk_below P2.out hb); have R3 := Aside0.mk (blk_below R2.out hb); have B3 := Aside0.mk (below_step B2.out hb); clear hb p0 p1 p2))
 have P4 := Aside0.mk (blk_drew P3.out)
 have R4 := Aside0.mk (blk_drew R3.out)
 have B4 : Aside0 (Below w.heap.size w w3.drew) := ⟨below_drew1 B3.out⟩
 clear P3 R3 B3
 refine start_ (n := 18) (S := fun w' => w'.cell? ⟨gP, 0, none⟩ = some (.int .i64 (W : Int)) ∧ w'.cell? ⟨gP, 1, none⟩ = some (.int .i64 (H : Int))) (ds := []) #[ff_,ff_,ff_,ff_,ff_,ff_,ff_,ff_,ff_,ff_,ff_,ff_,ff_,ff_,ff_,ff_,ff_,ff_] (by kernel_rfl) rfl rfl ⟨(blk_cell P4.out 0).trans rfl, (blk_cell P4.out 1).trans rfl⟩ (fun hHeld => ?_)
 generalize w3.drew = w4 at *
 refine pure_ (i := 0) (N := some 21) (v := ?_) (a' := ?_) #[tt_,ff_,ff_,ff_,ff_,ff_,ff_,ff_,ff_,ff_,ff_,ff_,ff_,ff_,ff_,ff_,ff_,ff_] rfl rfl (by kernel_rfl) (fun _ _ _ h => h) (Or.inl ⟨by rfl, ?_⟩) ?_ ?_
 rotate_left
 ·intro w'
  go_simp
  with_reducible rfl
 rotate_left
 ·simp only [Act.put, List.setIfInBounds_toArray, List.set_cons_zero, List.set_cons_succ, i64_w, i32_w]
  rfl
 refine pure_ (i := 1) (N := some 22) (v := ?_) (a' := ?_) #[tt_,tt_,ff_,ff_,ff_,ff_,ff_,ff_,ff_,ff_,ff_,ff_,ff_,ff_,ff_,ff_,ff_,ff_] rfl rfl (by kernel_rfl) (fun _ _ _ h => h) (Or.inl ⟨by rfl, ?_⟩) ?_ ?_
 rotate_left
 ·intro w'
  go_simp
  with_reducible rfl
 rotate_left
 ·simp only [Act.put, List.setIfInBounds_toArray, List.set_cons_zero, List.set_cons_succ, i64_w, i32_w]
  rfl
 refine one_ (i := 2) (N := some 23) #[tt_,tt_,tt_,ff_,ff_,ff_,ff_,ff_,ff_,ff_,ff_,ff_,ff_,ff_,ff_,ff_,ff_,ff_] rfl rfl (by kernel_rfl) (by decide) (fun K hK => ?_)
 refine goes_ Try.func49 (by kernel_rfl) rfl #[.int .i64 (wn : Int), .int .i64 (hn : Int)] (by rfl) rfl rfl (by (try simp only [List.map_toArray, List.map_cons, List.map_nil]); rfl) ?_
 with_reducible refine (rSize_calls (wn : Int) (hn : Int) _).mono ?_
 rw [HSO.out]
 rintro e _ ⟨rfl, rfl⟩
 refine ⟨_, rfl, ?_⟩
 refine hK.out _ _ ⟨(blk_cell P4.out 0).trans rfl, (blk_cell P4.out 1).trans rfl⟩ (fun hHeld => ?_)
 clear hK K
 refine norm_ (a' := ?_) ?_ ?_
 rotate_left
 ·show Act.put _ (some 23) _ = _
  simp only [Act.put, List.setIfInBounds_toArray, List.set_cons_zero, List.set_cons_succ, i64_w, i32_w]
  rfl
 refine pure_ (i := 3) (N := some 24) (v := ?_) (a' := ?_) #[tt_,tt_,tt_,tt_,ff_,ff_,ff_,ff_,ff_,ff_,ff_,ff_,ff_,ff_,ff_,ff_,ff_,ff_] rfl rfl (by kernel_rfl) (fun _ _ _ h => h) (Or.inl ⟨by rfl, ?_⟩) ?_ ?_
 rotate_left
 ·intro w'
  go_simp
  with_reducible rfl
 rotate_left
 ·simp only [Act.put, List.setIfInBounds_toArray, List.set_cons_zero, List.set_cons_succ, i64_w, i32_w]
  rfl
 refine pure_ (i := 4) (N := some 25) (v := ?_) (a' := ?_) #[tt_,tt_,tt_,tt_,tt_,ff_,ff_,ff_,ff_,ff_,ff_,ff_,ff_,ff_,ff_,ff_,ff_,ff_] rfl rfl (by kernel_rfl) (fun _ _ _ h => h) (Or.inl ⟨by rfl, ?_⟩) ?_ ?_
 rotate_left
 ·intro w'
  go_simp
  with_reducible rfl
 rotate_left
 ·simp only [Act.put, List.setIfInBounds_toArray, List.set_cons_zero, List.set_cons_succ, i64_w, i32_w]
  rfl
 refine pure_ (i := 5) (N := some 26) (v := ?_) (a' := ?_) #[tt_,tt_,tt_,tt_,tt_,tt_,ff_,ff_,ff_,ff_,ff_,ff_,ff_,ff_,ff_,ff_,ff_,ff_] rfl rfl (by kernel_rfl) (fun _ _ _ h => h) (Or.inl ⟨by rfl, ?_⟩) ?_ ?_
 rotate_left
 ·intro w'
  go_simp
  with_reducible rfl
 rotate_left
 ·simp only [Act.put, List.setIfInBounds_toArray, List.set_cons_zero, List.set_cons_succ, i64_w, i32_w]
  rfl
 refine pure_ (i := 7) (N := some 28) (v := ?_) (a' := ?_) #[tt_,tt_,tt_,tt_,tt_,tt_,ff_,tt_,ff_,ff_,ff_,ff_,ff_,ff_,ff_,ff_,ff_,ff_] rfl rfl (by kernel_rfl) (fun _ _ _ h => h) (Or.inl ⟨by rfl, ?_⟩) ?_ ?_
 rotate_left
 ·intro w'
  go_simp
  with_reducible rfl
 rotate_left
 ·simp only [Act.put, List.setIfInBounds_toArray, List.set_cons_zero, List.set_cons_succ, i64_w, i32_w]
  rfl
 refine take_ (i := 8) (N := some 29) (v := ?_) (a' := ?_) #[tt_,tt_,tt_,tt_,tt_,tt_,ff_,tt_,tt_,ff_,ff_,ff_,ff_,ff_,ff_,ff_,ff_,ff_] rfl rfl (by kernel_rfl) (fun _ _ _ h => h) (Or.inl ⟨by rfl, ?_⟩) hHeld ?_ ?_
 rotate_left
 ·rintro w' ⟨s0, s1⟩
  go_simp
  with_reducible rfl
 rotate_left
 ·simp only [Act.put, List.setIfInBounds_toArray, List.set_cons_zero, List.set_cons_succ, i64_w, i32_w]
  rfl
 refine one_ (i := 6) (N := some 27) #[tt_,tt_,tt_,tt_,tt_,tt_,tt_,tt_,tt_,ff_,ff_,ff_,ff_,ff_,ff_,ff_,ff_,ff_] rfl rfl (by kernel_rfl) (by decide) (fun K hK => ?_)
 refine goes_ Try.func45 (by kernel_rfl) rfl #[.int .i64 (wn : Int)] (by rfl) rfl rfl (by (try simp only [List.map_toArray, List.map_cons, List.map_nil]); rfl) ?_
 with_reducible refine (rHalf wn _ HWN.out).mono ?_
 rintro e w5 ⟨rfl, hb⟩
 refine ⟨_, rfl, ?_⟩
 have P5 := Aside0.mk (blk_below P4.out hb)
 have R5 := Aside0.mk (blk_below R4.out hb)
 have B5 := Aside0.mk (below_step B4.out hb)
 clear hb
 refine hK.out _ _ ⟨(blk_cell P5.out 0).trans rfl, (blk_cell P5.out 1).trans rfl⟩ (fun hHeld => ?_)
 clear hK K
 refine norm_ (a' := ?_) ?_ ?_
 rotate_left
 ·show Act.put _ (some 27) _ = _
  simp only [Act.put, List.setIfInBounds_toArray, List.set_cons_zero, List.set_cons_succ, i64_w, i32_w]
  rfl
 refine pure_ (i := 9) (N := some 30) (v := ?_) (a' := ?_) #[tt_,tt_,tt_,tt_,tt_,tt_,tt_,tt_,tt_,tt_,ff_,ff_,ff_,ff_,ff_,ff_,ff_,ff_] rfl rfl (by kernel_rfl) (fun _ _ _ h => h) (Or.inl ⟨by rfl, ?_⟩) ?_ ?_
 rotate_left
 ·intro w'
  go_simp
  with_reducible rfl
 rotate_left
 ·simp only [Act.put, List.setIfInBounds_toArray, List.set_cons_zero, List.set_cons_succ, i64_w, i32_w]
  rfl
 refine pure_ (i := 10) (N := some 31) (v := ?_) (a' := ?_) #[tt_,tt_,tt_,tt_,tt_,tt_,tt_,tt_,tt_,tt_,tt_,ff_,ff_,ff_,ff_,ff_,ff_,ff_] rfl rfl (by kernel_rfl) (fun _ _ _ h => h) (Or.inl ⟨by rfl, ?_⟩) ?_ ?_
 rotate_left
 ·intro w'
  go_simp
  with_reducible rfl
 rotate_left
 ·simp only [Act.put, List.setIfInBounds_toArray, List.set_cons_zero, List.set_cons_succ, i64_w, i32_w]
  rfl
 refine pure_ (i := 11) (N := some 32) (v := ?_) (a' := ?_) #[tt_,tt_,tt_,tt_,tt_,tt_,tt_,tt_,tt_,tt_,tt_,tt_,ff_,ff_,ff_,ff_,ff_,ff_] rfl rfl (by kernel_rfl) (fun _ _ _ h => h) (Or.inl ⟨by rfl, ?_⟩) ?_ ?_
 rotate_left
 ·intro w'
  go_simp
  with_reducible rfl
 rotate_left
 ·simp only [Act.put, List.setIfInBounds_toArray, List.set_cons_zero, List.set_cons_succ, i64_w, i32_w]
  rfl
 refine pure_ (i := 12) (N := some 33) (v := undef) (a' := ?_) #[tt_,tt_,tt_,tt_,tt_,tt_,tt_,tt_,tt_,tt_,tt_,tt_,tt_,ff_,ff_,ff_,ff_,ff_] rfl rfl (by kernel_rfl) (fun _ _ _ h => h) (Or.inr ⟨by rfl, rfl⟩) ?_ ?_
 rotate_left
 ·simp only [Act.put, List.setIfInBounds_toArray, List.set_cons_zero, List.set_cons_succ, i64_w, i32_w]
  rfl
 refine pure_ (i := 13) (N := some 34) (v := undef) (a' := ?_) #[tt_,tt_,tt_,tt_,tt_,tt_,tt_,tt_,tt_,tt_,tt_,tt_,tt_,tt_,ff_,ff_,ff_,ff_] rfl rfl (by kernel_rfl) (fun _ _ _ h => h) (Or.inr ⟨by rfl, rfl⟩) ?_ ?_
 rotate_left
 ·simp only [Act.put, List.setIfInBounds_toArray, List.set_cons_zero, List.set_cons_succ, i64_w, i32_w]
  rfl
 refine pure_ (i := 14) (N := some 35) (v := undef) (a' := ?_) #[tt_,tt_,tt_,tt_,tt_,tt_,tt_,tt_,tt_,tt_,tt_,tt_,tt_,tt_,tt_,ff_,ff_,ff_] rfl rfl (by kernel_rfl) (fun _ _ _ h => h) (Or.inr ⟨by rfl, rfl⟩) ?_ ?_
 rotate_left
 ·simp only [Act.put, List.setIfInBounds_toArray, List.set_cons_zero, List.set_cons_succ, i64_w, i32_w]
  rfl
 refine pure_ (i := 15) (N := some 36) (v := undef) (a' := ?_) #[tt_,tt_,tt_,tt_,tt_,tt_,tt_,tt_,tt_,tt_,tt_,tt_,tt_,tt_,tt_,tt_,ff_,ff_] rfl rfl (by kernel_rfl) (fun _ _ _ h => h) (Or.inr ⟨by rfl, rfl⟩) ?_ ?_
 rotate_left
 ·simp only [Act.put, List.setIfInBounds_toArray, List.set_cons_zero, List.set_cons_succ, i64_w, i32_w]
  rfl
 refine pure_ (i := 16) (N := some 37) (v := undef) (a' := ?_) #[tt_,tt_,tt_,tt_,tt_,tt_,tt_,tt_,tt_,tt_,tt_,tt_,tt_,tt_,tt_,tt_,tt_,ff_] rfl rfl (by kernel_rfl) (fun _ _ _ h => h) (Or.inr ⟨by rfl, rfl⟩) ?_ ?_
 rotate_left
 ·simp only [Act.put, List.setIfInBounds_toArray, List.set_cons_zero, List.set_cons_succ, i64_w, i32_w]
  rfl
 refine pure_ (i := 17) (N := some 38) (v := ?_) (a' := ?_) #[tt_,tt_,tt_,tt_,tt_,tt_,tt_,tt_,tt_,tt_,tt_,tt_,tt_,tt_,tt_,tt_,tt_,tt_] rfl rfl (by kernel_rfl) (fun _ _ _ h => h) (Or.inl ⟨by rfl, ?_⟩) ?_ ?_
 rotate_left
 ·intro w'
  go_simp
  with_reducible rfl
 rotate_left
 ·simp only [Act.put, List.setIfInBounds_toArray, List.set_cons_zero, List.set_cons_succ, i64_w, i32_w]
  rfl
 refine done_ (by kernel_rfl) ?_
 clear hHeld
 go_wp2_with (first | ((with_reducible refine gate_store (p := 6) rfl ?_); refine storeP_event rfl rfl rfl gR 0 0 none 0 0 _ _ _ rfl rfl R5.out ?_; intro w7 hm_ hst_ hbl_; have R40 := Aside0.mk (hm_); have B40 := Aside0.mk (B5.out.trans (hbl_ _ GR.out)); clear hm_ hst_ hbl_))
 refine bodyPost_ret (results_ct rfl _ _ gR 25 #[.int .i64 0, .int .i64 0, .slice none 0 0] (0, 0) _ rfl R40.out Try.underlying25 rfl (by kernel_rfl)) rfl ?_
 exact ⟨rfl, B40.out⟩
set_option maxHeartbeats 4000000 in
set_option maxRecDepth 100000 in
theorem rExpand_high (W H : Nat) (p : List Nat) (A : Option Addr) (n cap : Nat) (wn hn : Nat) (w : World) (hp : (Pl.mk W H p).ok) (hnl : p.length = n) (hS : 0 < wn ∧ 0 < hn ∧ wn ≤ 1024 ∧ hn ≤ 1024 ∧ wn * hn ≤ 65536) (hW : hf wn = W) (hH : hf hn ≠ H) :
    Calls Try.prog 15 #[.agg #[.int .i64 (W : Int), .int .i64 (H : Int), .slice A n cap], .int .i64 (wn : Int), .int .i64 (hn : Int)] w fun e w' => e = .returned (.tuple #[.agg #[.int .i64 0, .int .i64 0, .slice none 0 0], .int .i64 141]) ∧ Below w.heap.size w w' := by
 have hu25 := Try.underlying25
 have HE : Aside0 (checkE (W : Int) (H : Int) n = 0) := ⟨by rw [← hnl]; exact hp.checkE⟩
 obtain ⟨p1, p2, p3, p4, p5, p6, p7⟩ := hp
 have p5 : W * H ≤ 65536 := p5
 have p6 : p.length = W * H := p6
 have HNL : Aside0 (n < 9223372036854775808) := ⟨by omega⟩
 have HSO : Aside0 (sizeB (wn : Int) (hn : Int) = true) := ⟨sizeB_nat hS.1 hS.2.1 hS.2.2.1 hS.2.2.2.1 hS.2.2.2.2⟩
 have HWN : Aside0 (wn ≤ 1024) := ⟨by omega⟩
 have HHN : Aside0 (hn ≤ 1024) := ⟨by omega⟩
 have t1 : (((hf wn : Nat) : Int) != (W : Int)) = false := by rw [bne_eq_false_iff_eq]; omega
 have t2 : (((hf hn : Nat) : Int) != (H : Int)) = true := by rw [bne_iff_ne]; omega
 clear p1 p2 p3 p4 p5 p6 p7 hnl hS hW hH
 go_enter Try.func15, Try.ntmps15
 go_upto_region 4 with (first | ((with_reducible refine gate_dst (N := 3) rfl ?_); refine box_event ?hg (N := 3) ?hd (cs := #[.int .i64 (W : Int), .int .i64 (H : Int), .slice A n cap]) (t := 25) ?hr ?_; (case hd => rfl); (case hg => rfl); (case hr => first | (go_simp; done) | (go_simp; rfl)); intro gP hg_ w1 hm_ hb_; have P1 := Aside0.mk (hm_); have B1 := Aside0.mk (hb_); clear hm_ hb_ hg_) | ((with_reducible refine gate_dst (N := 6) rfl ?_); refine box_event ?hg (N := 6) ?hd (cs := #[.int .i64 0, .int .i64 0, .slice none 0 0]) (t := 25) ?hr ?_; (case hd => rfl); (case hg => rfl); (case hr => first | (go_simp; done) | (go_simp; rfl)); intro gR hg_ w2 hm_ hb_; have R2 := Aside0.mk (hm_); have P2 := Aside0.mk (blk_below P1.out hb_); have B2 := Aside0.mk (below_step B1.out hb_); have GR := Aside0.mk (show w.heap.size ≤ gR by rw [hg_]; exact below_size B1.out); have p0 := (blk_cell P2.out 0).trans rfl; have p1 := (blk_cell P2.out 1).trans rfl; have p2 := (blk_cell P2.out 2).trans rfl; clear hm_ hb_ hg_ P1 B1) | (go_at_call 44; refine (rCheck_calls (W : Int) (H : Int) A n cap _ HNL.out).mono ?_; rw [HE.out]; rintro e w3 ⟨rfl, hb⟩; have P3 := Aside0.mk (blk_below P2.out hb); have R3 := Aside0.mk (blk_below R2.out hb); have B3 := Aside0.mk (below_step B2.out hb); clear hb p0 p1 p2))
 have P4 := Aside0.mk (blk_drew P3.out)
 have R4 := Aside0.mk (blk_drew R3.out)
 have B4 : Aside0 (Below w.heap.size w w3.drew) := ⟨below_drew1 B3.out⟩
 clear P3 R3 B3
 refine start_ (n := 18) (S := fun w' => w'.cell? ⟨gP, 0, none⟩ = some (.int .i64 (W : Int)) ∧ w'.cell? ⟨gP, 1, none⟩ = some (.int .i64 (H : Int))) (ds := []) #[ff_,ff_,ff_,ff_,ff_,ff_,ff_,ff_,ff_,ff_,ff_,ff_,ff_,ff_,ff_,ff_,ff_,ff_] (by kernel_rfl) rfl rfl ⟨(blk_cell P4.out 0).trans rfl, (blk_cell P4.out 1).trans rfl⟩ (fun hHeld => ?_)
 generalize w3.drew = w4 at *
 refine pure_ (i := 0) (N := some 21) (v := ?_) (a' := ?_) #[tt_,ff_,ff_,ff_,ff_,ff_,ff_,ff_,ff_,ff_,ff_,ff_,ff_,ff_,ff_,ff_,ff_,ff_] rfl rfl (by kernel_rfl) (fun _ _ _ h => h) (Or.inl ⟨by rfl, ?_⟩) ?_ ?_
 rotate_left
 ·intro w'
  go_simp
  with_reducible rfl
 rotate_left
 ·simp only [Act.put, List.setIfInBounds_toArray, List.set_cons_zero, List.set_cons_succ, i64_w, i32_w]
  rfl
 refine pure_ (i := 1) (N := some 22) (v := ?_) (a' := ?_) #[tt_,tt_,ff_,ff_,ff_,ff_,ff_,ff_,ff_,ff_,ff_,ff_,ff_,ff_,ff_,ff_,ff_,ff_] rfl rfl (by kernel_rfl) (fun _ _ _ h => h) (Or.inl ⟨by rfl, ?_⟩) ?_ ?_
 rotate_left
 ·intro w'
  go_simp
  with_reducible rfl
 rotate_left
 ·simp only [Act.put, List.setIfInBounds_toArray, List.set_cons_zero, List.set_cons_succ, i64_w, i32_w]
  rfl
 refine one_ (i := 2) (N := some 23) #[tt_,tt_,tt_,ff_,ff_,ff_,ff_,ff_,ff_,ff_,ff_,ff_,ff_,ff_,ff_,ff_,ff_,ff_] rfl rfl (by kernel_rfl) (by decide) (fun K hK => ?_)
 refine goes_ Try.func49 (by kernel_rfl) rfl #[.int .i64 (wn : Int), .int .i64 (hn : Int)] (by rfl) rfl rfl (by (try simp only [List.map_toArray, List.map_cons, List.map_nil]); rfl) ?_
 with_reducible refine (rSize_calls (wn : Int) (hn : Int) _).mono ?_
 rw [HSO.out]
 rintro e _ ⟨rfl, rfl⟩
 refine ⟨_, rfl, ?_⟩
 refine hK.out _ _ ⟨(blk_cell P4.out 0).trans rfl, (blk_cell P4.out 1).trans rfl⟩ (fun hHeld => ?_)
 clear hK K
 refine norm_ (a' := ?_) ?_ ?_
 rotate_left
 ·show Act.put _ (some 23) _ = _
  simp only [Act.put, List.setIfInBounds_toArray, List.set_cons_zero, List.set_cons_succ, i64_w, i32_w]
  rfl
 refine pure_ (i := 3) (N := some 24) (v := ?_) (a' := ?_) #[tt_,tt_,tt_,tt_,ff_,ff_,ff_,ff_,ff_,ff_,ff_,ff_,ff_,ff_,ff_,ff_,ff_,ff_] rfl rfl (by kernel_rfl) (fun _ _ _ h => h) (Or.inl ⟨by rfl, ?_⟩) ?_ ?_
 rotate_left
 ·intro w'
  go_simp
  with_reducible rfl
 rotate_left
 ·simp only [Act.put, List.setIfInBounds_toArray, List.set_cons_zero, List.set_cons_succ, i64_w, i32_w]
  rfl
 refine pure_ (i := 4) (N := some 25) (v := ?_) (a' := ?_) #[tt_,tt_,tt_,tt_,tt_,ff_,ff_,ff_,ff_,ff_,ff_,ff_,ff_,ff_,ff_,ff_,ff_,ff_] rfl rfl (by kernel_rfl) (fun _ _ _ h => h) (Or.inl ⟨by rfl, ?_⟩) ?_ ?_
 rotate_left
 ·intro w'
  go_simp
  with_reducible rfl
 rotate_left
 ·simp only [Act.put, List.setIfInBounds_toArray, List.set_cons_zero, List.set_cons_succ, i64_w, i32_w]
  rfl
 refine pure_ (i := 5) (N := some 26) (v := ?_) (a' := ?_) #[tt_,tt_,tt_,tt_,tt_,tt_,ff_,ff_,ff_,ff_,ff_,ff_,ff_,ff_,ff_,ff_,ff_,ff_] rfl rfl (by kernel_rfl) (fun _ _ _ h => h) (Or.inl ⟨by rfl, ?_⟩) ?_ ?_
 rotate_left
 ·intro w'
  go_simp
  with_reducible rfl
 rotate_left
 ·simp only [Act.put, List.setIfInBounds_toArray, List.set_cons_zero, List.set_cons_succ, i64_w, i32_w]
  rfl
 refine pure_ (i := 7) (N := some 28) (v := ?_) (a' := ?_) #[tt_,tt_,tt_,tt_,tt_,tt_,ff_,tt_,ff_,ff_,ff_,ff_,ff_,ff_,ff_,ff_,ff_,ff_] rfl rfl (by kernel_rfl) (fun _ _ _ h => h) (Or.inl ⟨by rfl, ?_⟩) ?_ ?_
 rotate_left
 ·intro w'
  go_simp
  with_reducible rfl
 rotate_left
 ·simp only [Act.put, List.setIfInBounds_toArray, List.set_cons_zero, List.set_cons_succ, i64_w, i32_w]
  rfl
 refine take_ (i := 8) (N := some 29) (v := ?_) (a' := ?_) #[tt_,tt_,tt_,tt_,tt_,tt_,ff_,tt_,tt_,ff_,ff_,ff_,ff_,ff_,ff_,ff_,ff_,ff_] rfl rfl (by kernel_rfl) (fun _ _ _ h => h) (Or.inl ⟨by rfl, ?_⟩) hHeld ?_ ?_
 rotate_left
 ·rintro w' ⟨s0, s1⟩
  go_simp
  with_reducible rfl
 rotate_left
 ·simp only [Act.put, List.setIfInBounds_toArray, List.set_cons_zero, List.set_cons_succ, i64_w, i32_w]
  rfl
 refine one_ (i := 6) (N := some 27) #[tt_,tt_,tt_,tt_,tt_,tt_,tt_,tt_,tt_,ff_,ff_,ff_,ff_,ff_,ff_,ff_,ff_,ff_] rfl rfl (by kernel_rfl) (by decide) (fun K hK => ?_)
 refine goes_ Try.func45 (by kernel_rfl) rfl #[.int .i64 (wn : Int)] (by rfl) rfl rfl (by (try simp only [List.map_toArray, List.map_cons, List.map_nil]); rfl) ?_
 with_reducible refine (rHalf wn _ HWN.out).mono ?_
 rintro e w5 ⟨rfl, hb⟩
 refine ⟨_, rfl, ?_⟩
 have P5 := Aside0.mk (blk_below P4.out hb)
 have R5 := Aside0.mk (blk_below R4.out hb)
 have B5 := Aside0.mk (below_step B4.out hb)
 clear hb
 refine hK.out _ _ ⟨(blk_cell P5.out 0).trans rfl, (blk_cell P5.out 1).trans rfl⟩ (fun hHeld => ?_)
 clear hK K
 refine norm_ (a' := ?_) ?_ ?_
 rotate_left
 ·show Act.put _ (some 27) _ = _
  simp only [Act.put, List.setIfInBounds_toArray, List.set_cons_zero, List.set_cons_succ, i64_w, i32_w]
  rfl
 refine pure_ (i := 9) (N := some 30) (v := ?_) (a' := ?_) #[tt_,tt_,tt_,tt_,tt_,tt_,tt_,tt_,tt_,tt_,ff_,ff_,ff_,ff_,ff_,ff_,ff_,ff_] rfl rfl (by kernel_rfl) (fun _ _ _ h => h) (Or.inl ⟨by rfl, ?_⟩) ?_ ?_
 rotate_left
 ·intro w'
  go_simp
  with_reducible rfl
 rotate_left
 ·simp only [Act.put, List.setIfInBounds_toArray, List.set_cons_zero, List.set_cons_succ, i64_w, i32_w]
  rfl
 refine pure_ (i := 10) (N := some 31) (v := ?_) (a' := ?_) #[tt_,tt_,tt_,tt_,tt_,tt_,tt_,tt_,tt_,tt_,tt_,ff_,ff_,ff_,ff_,ff_,ff_,ff_] rfl rfl (by kernel_rfl) (fun _ _ _ h => h) (Or.inl ⟨by rfl, ?_⟩) ?_ ?_
 rotate_left
 ·intro w'
  go_simp
  with_reducible rfl
 rotate_left
 ·simp only [Act.put, List.setIfInBounds_toArray, List.set_cons_zero, List.set_cons_succ, i64_w, i32_w]
  rfl
 refine pure_ (i := 11) (N := some 32) (v := ?_) (a' := ?_) #[tt_,tt_,tt_,tt_,tt_,tt_,tt_,tt_,tt_,tt_,tt_,tt_,ff_,ff_,ff_,ff_,ff_,ff_] rfl rfl (by kernel_rfl) (fun _ _ _ h => h) (Or.inl ⟨by rfl, ?_⟩) ?_ ?_
 rotate_left
 ·intro w'
  go_simp
  with_reducible rfl
 rotate_left
 ·simp only [Act.put, List.setIfInBounds_toArray, List.set_cons_zero, List.set_cons_succ, i64_w, i32_w]
  rfl
 refine pure_ (i := 12) (N := some 33) (v := ?_) (a' := ?_) #[tt_,tt_,tt_,tt_,tt_,tt_,tt_,tt_,tt_,tt_,tt_,tt_,tt_,ff_,ff_,ff_,ff_,ff_] rfl rfl (by kernel_rfl) (fun _ _ _ h => h) (Or.inl ⟨by rfl, ?_⟩) ?_ ?_
 rotate_left
 ·intro w'
  go_simp
  with_reducible rfl
 rotate_left
 ·simp only [Act.put, List.setIfInBounds_toArray, List.set_cons_zero, List.set_cons_succ, i64_w, i32_w]
  rfl
 refine pure_ (i := 14) (N := some 35) (v := ?_) (a' := ?_) #[tt_,tt_,tt_,tt_,tt_,tt_,tt_,tt_,tt_,tt_,tt_,tt_,tt_,ff_,tt_,ff_,ff_,ff_] rfl rfl (by kernel_rfl) (fun _ _ _ h => h) (Or.inl ⟨by rfl, ?_⟩) ?_ ?_
 rotate_left
 ·intro w'
  go_simp
  with_reducible rfl
 rotate_left
 ·simp only [Act.put, List.setIfInBounds_toArray, List.set_cons_zero, List.set_cons_succ, i64_w, i32_w]
  rfl
 refine take_ (i := 15) (N := some 36) (v := ?_) (a' := ?_) #[tt_,tt_,tt_,tt_,tt_,tt_,tt_,tt_,tt_,tt_,tt_,tt_,tt_,ff_,tt_,tt_,ff_,ff_] rfl rfl (by kernel_rfl) (fun _ _ _ h => h) (Or.inl ⟨by rfl, ?_⟩) hHeld ?_ ?_
 rotate_left
 ·rintro w' ⟨s0, s1⟩
  go_simp
  with_reducible rfl
 rotate_left
 ·simp only [Act.put, List.setIfInBounds_toArray, List.set_cons_zero, List.set_cons_succ, i64_w, i32_w]
  rfl
 refine one_ (i := 13) (N := some 34) #[tt_,tt_,tt_,tt_,tt_,tt_,tt_,tt_,tt_,tt_,tt_,tt_,tt_,tt_,tt_,tt_,ff_,ff_] rfl rfl (by kernel_rfl) (by decide) (fun K hK => ?_)
 refine goes_ Try.func45 (by kernel_rfl) rfl #[.int .i64 (hn : Int)] (by rfl) rfl rfl (by (try simp only [List.map_toArray, List.map_cons, List.map_nil]); rfl) ?_
 with_reducible refine (rHalf hn _ HHN.out).mono ?_
 rintro e w6 ⟨rfl, hb⟩
 refine ⟨_, rfl, ?_⟩
 have P6 := Aside0.mk (blk_below P5.out hb)
 have R6 := Aside0.mk (blk_below R5.out hb)
 have B6 := Aside0.mk (below_step B5.out hb)
 clear hb
 refine hK.out _ _ ⟨(blk_cell P6.out 0).trans rfl, (blk_cell P6.out 1).trans rfl⟩ (fun hHeld => ?_)
 clear hK K
 refine norm_ (a' := ?_) ?_ ?_
 rotate_left
 ·show Act.put _ (some 34) _ = _
  simp only [Act.put, List.setIfInBounds_toArray, List.set_cons_zero, List.set_cons_succ, i64_w, i32_w]
  rfl
 refine pure_ (i := 16) (N := some 37) (v := ?_) (a' := ?_) #[tt_,tt_,tt_,tt_,tt_,tt_,tt_,tt_,tt_,tt_,tt_,tt_,tt_,tt_,tt_,tt_,tt_,ff_] rfl rfl (by kernel_rfl) (fun _ _ _ h => h) (Or.inl ⟨by rfl, ?_⟩) ?_ ?_
 rotate_left
 ·intro w'
  go_simp
  with_reducible rfl
 rotate_left
 ·simp only [Act.put, List.setIfInBounds_toArray, List.set_cons_zero, List.set_cons_succ, i64_w, i32_w]
  rfl
 refine pure_ (i := 17) (N := some 38) (v := ?_) (a' := ?_) #[tt_,tt_,tt_,tt_,tt_,tt_,tt_,tt_,tt_,tt_,tt_,tt_,tt_,tt_,tt_,tt_,tt_,tt_] rfl rfl (by kernel_rfl) (fun _ _ _ h => h) (Or.inl ⟨by rfl, ?_⟩) ?_ ?_
 rotate_left
 ·intro w'
  go_simp
  with_reducible rfl
 rotate_left
 ·simp only [Act.put, List.setIfInBounds_toArray, List.set_cons_zero, List.set_cons_succ, i64_w, i32_w]
  rfl
 refine done_ (by kernel_rfl) ?_
 clear hHeld
 go_wp2_with (first | ((with_reducible refine gate_store (p := 6) rfl ?_); refine storeP_event rfl rfl rfl gR 0 0 none 0 0 _ _ _ rfl rfl R6.out ?_; intro w7 hm_ hst_ hbl_; have R40 := Aside0.mk (hm_); have B40 := Aside0.mk (B6.out.trans (hbl_ _ GR.out)); clear hm_ hst_ hbl_))
 refine bodyPost_ret (results_ct rfl _ _ gR 25 #[.int .i64 0, .int .i64 0, .slice none 0 0] (0, 0) _ rfl R40.out Try.underlying25 rfl (by kernel_rfl)) rfl ?_
 exact ⟨rfl, B40.out⟩
end Go.Proofs.Ytodlgdpkadkjjaa.A
end
section
set_option linter.unusedVariables false
set_option linter.unusedSimpArgs false
namespace Go.Proofs.Ytodlgdpkadkjjaa.A
open Go.RowKit Go.Shelf Go.Proofs.YtodlgdpkadkjjaaW.PrintWords Go.Proofs.YtodlgdpkadkjjaaW.PrintLast Go.Proofs.YtodlgdpkadkjjaaW.PrintMore Go.Proofs.Ytodlgdpkadkjjaa.PPyramidLevels
set_option maxHeartbeats 8000000 in
set_option maxRecDepth 100000 in
theorem rExpand_ok (W H : Nat) (p : List Nat) (A : Option Addr) (n cap : Nat) (wn hn : Nat) (w : World) (hp : (Pl.mk W H p).ok) (hx : PL w A n cap p) (hS : 0 < wn ∧ 0 < hn ∧ wn ≤ 1024 ∧ hn ≤ 1024 ∧ wn * hn ≤ 65536) (hW : hf wn = W) (hH : hf hn = H) :
    Calls Try.prog 15 #[.agg #[.int .i64 (W : Int), .int .i64 (H : Int), .slice A n cap], .int .i64 (wn : Int), .int .i64 (hn : Int)] w fun e w' => ∃ v, e = .returned (.tuple #[.agg #[.int .i64 (wn : Int), .int .i64 (hn : Int), v], .int .i64 0]) ∧ (nat .u32).R 50 w' w.heap.size (fun _ => True) v (expS W H wn hn p) ∧ Below w.heap.size w w' := by
 have hu25 := Try.underlying25
 have HE : Aside0 (checkE (W : Int) (H : Int) n = 0) := ⟨by rw [← hx.2.2]; exact hp.checkE⟩
 have HPX : Aside0 (∀ i, gt p i < 4294967296) := ⟨hp.2.2.2.2.2.2⟩
 obtain ⟨p1, p2, p3, p4, p5, p6, p7⟩ := hp
 have p1 : 0 < W := p1
 have p2 : 0 < H := p2
 have p3 : W ≤ 1024 := p3
 have p4 : H ≤ 1024 := p4
 have p5 : W * H ≤ 65536 := p5
 have p6 : p.length = W * H := p6
 have HNL : Aside0 (n < 9223372036854775808) := ⟨by have := hx.2.2; omega⟩
 have HPN := Aside0.mk p6
 have HX := Aside0.mk hx
 have HWB : Aside0 (1 ≤ W ∧ W ≤ 1024) := ⟨⟨p1, p3⟩⟩
 have HHB : Aside0 (1 ≤ H ∧ H ≤ 1024) := ⟨⟨p2, p4⟩⟩
 have HFW := Aside0.mk hW
 have HFH := Aside0.mk hH
 have HSO : Aside0 (sizeB (wn : Int) (hn : Int) = true) := ⟨sizeB_nat hS.1 hS.2.1 hS.2.2.1 hS.2.2.2.1 hS.2.2.2.2⟩
 have HWN : Aside0 (wn ≤ 1024) := ⟨by omega⟩
 have HHN : Aside0 (hn ≤ 1024) := ⟨by omega⟩
 have t1 : (((hf wn : Nat) : Int) != (W : Int)) = false := by rw [bne_eq_false_iff_eq]; omega
 have t2 : (((hf hn : Nat) : Int) != (H : Int)) = false := by rw [bne_eq_false_iff_eq]; omega
 have hwb : 1 ≤ wn ∧ wn ≤ 1024 := by omega
 have hhb : 1 ≤ hn ∧ hn ≤ 1024 := by omega
 obtain ⟨kz, hK⟩ : ∃ kz, wn * hn = kz := ⟨_, rfl⟩
 have hKb : 0 < kz ∧ kz ≤ 65536 := by rw [← hK]; exact ⟨Nat.mul_pos hwb.1 hhb.1, hS.2.2.2.2⟩
 have HKK := Aside0.mk hK
 have HKB := Aside0.mk hKb
 have hwH : H * wn ≤ 1048576 := Nat.le_trans (Nat.mul_le_mul p4 (show wn ≤ 1024 by omega)) (by decide)
 have HWH := Aside0.mk hwH
 have hRS : expS W H wn hn p = resZ expandS W H wn hn p := rfl
 rw [hRS]
 have HRS : Aside0 (gridTo (cG expandS wn H (midZ expandS W H wn p)) wn (hn * wn) = resZ expandS W H wn hn p) := ⟨rRes expandS W H wn hn p p2⟩
 have HMD : Aside0 (gridTo (rF expandS W p) wn (H * wn) = midZ expandS W H wn p) := ⟨rMid expandS W H wn p p6⟩
 have HML : Aside0 (∀ i, gt (midZ expandS W H wn p) i < 4294967296) := ⟨gt_lt_of (by decide) (midZ_lt expandS expand_good W H wn p (lt_of_gt p7) p1 (by omega))⟩
 clear p1 p2 p5 p6 p7 hx hK hRS hwH hS hW hH
 go_enter Try.func15, Try.ntmps15
 go_upto_region 4 with (first | ((with_reducible refine gate_dst (N := 3) rfl ?_); refine box_event ?hg (N := 3) ?hd (cs := #[.int .i64 (W : Int), .int .i64 (H : Int), .slice A n cap]) (t := 25) ?hr ?_; (case hd => rfl); (case hg => rfl); (case hr => first | (go_simp; done) | (go_simp; rfl)); intro gP hg_ w1 hm_ hb_; have P1 := Aside0.mk (hm_); have B1 := Aside0.mk (hb_); clear hm_ hb_ hg_) | ((with_reducible refine gate_dst (N := 6) rfl ?_); refine box_event ?hg (N := 6) ?hd (cs := #[.int .i64 0, .int .i64 0, .slice none 0 0]) (t := 25) ?hr ?_; (case hd => rfl); (case hg => rfl); (case hr => first | (go_simp; done) | (go_simp; rfl)); intro gR hg_ w2 hm_ hb_; have R2 := Aside0.mk (hm_); have P2 := Aside0.mk (blk_below P1.out hb_); have B2 := Aside0.mk (below_step B1.out hb_); have GR := Aside0.mk (show w.heap.size ≤ gR by rw [hg_]; exact below_size B1.out); have p0 := (blk_cell P2.out 0).trans rfl; have p1 := (blk_cell P2.out 1).trans rfl; have p2 := (blk_cell P2.out 2).trans rfl; clear hm_ hb_ hg_ P1 B1) | (go_at_call 44; refine (rCheck_calls (W : Int) (H : Int) A n cap _ HNL.out).mono ?_; rw [HE.out]; rintro e w3 ⟨rfl, hb⟩; have P3 := Aside0.mk (blk_below P2.out hb); have R3 := Aside0.mk (blk_below R2.out hb); have B3 := Aside0.mk (below_step B2.out hb); clear hb p0 p1 p2))
 have P4 := Aside0.mk (blk_drew P3.out)
 have R4 := Aside0.mk (blk_drew R3.out)
 have B4 : Aside0 (Below w.heap.size w w3.drew) := ⟨below_drew1 B3.out⟩
 clear P3 R3 B3
 refine start_ (n := 18) (S := fun w' => w'.cell? ⟨gP, 0, none⟩ = some (.int .i64 (W : Int)) ∧ w'.cell? ⟨gP, 1, none⟩ = some (.int .i64 (H : Int))) (ds := []) #[ff_,ff_,ff_,ff_,ff_,ff_,ff_,ff_,ff_,ff_,ff_,ff_,ff_,ff_,ff_,ff_,ff_,ff_] (by kernel_rfl) rfl rfl ⟨(blk_cell P4.out 0).trans rfl, (blk_cell P4.out 1).trans rfl⟩ (fun hHeld => ?_)
 generalize w3.drew = w4 at *
 refine pure_ (i := 0) (N := some 21) (v := ?_) (a' := ?_) #[tt_,ff_,ff_,ff_,ff_,ff_,ff_,ff_,ff_,ff_,ff_,ff_,ff_,ff_,ff_,ff_,ff_,ff_] rfl rfl (by kernel_rfl) (fun _ _ _ h => h) (Or.inl ⟨by rfl, ?_⟩) ?_ ?_
 rotate_left
 ·intro w'
  go_simp
  with_reducible rfl
 rotate_left
 ·simp only [Act.put, List.setIfInBounds_toArray, List.set_cons_zero, List.set_cons_succ, i64_w, i32_w]
  rfl
 refine pure_ (i := 1) (N := some 22) (v := ?_) (a' := ?_) #[tt_,tt_,ff_,ff_,ff_,ff_,ff_,ff_,ff_,ff_,ff_,ff_,ff_,ff_,ff_,ff_,ff_,ff_] rfl rfl (by kernel_rfl) (fun _ _ _ h => h) (Or.inl ⟨by rfl, ?_⟩) ?_ ?_
 rotate_left
 ·intro w'
  go_simp
  with_reducible rfl
 rotate_left
 ·simp only [Act.put, List.setIfInBounds_toArray, List.set_cons_zero, List.set_cons_succ, i64_w, i32_w]
  rfl
 refine one_ (i := 2) (N := some 23) #[tt_,tt_,tt_,ff_,ff_,ff_,ff_,ff_,ff_,ff_,ff_,ff_,ff_,ff_,ff_,ff_,ff_,ff_] rfl rfl (by kernel_rfl) (by decide) (fun K hK => ?_)
 refine goes_ Try.func49 (by kernel_rfl) rfl #[.int .i64 (wn : Int), .int .i64 (hn : Int)] (by rfl) rfl rfl (by (try simp only [List.map_toArray, List.map_cons, List.map_nil]); rfl) ?_
 with_reducible refine (rSize_calls (wn : Int) (hn : Int) _).mono ?_
 rw [HSO.out]
 rintro e _ ⟨rfl, rfl⟩
 refine ⟨_, rfl, ?_⟩
 refine hK.out _ _ ⟨(blk_cell P4.out 0).trans rfl, (blk_cell P4.out 1).trans rfl⟩ (fun hHeld => ?_)
 clear hK K
 refine norm_ (a' := ?_) ?_ ?_
 rotate_left
 ·show Act.put _ (some 23) _ = _
  simp only [Act.put, List.setIfInBounds_toArray, List.set_cons_zero, List.set_cons_succ, i64_w, i32_w]
  rfl
 refine pure_ (i := 3) (N := some 24) (v := ?_) (a' := ?_) #[tt_,tt_,tt_,tt_,ff_,ff_,ff_,ff_,ff_,ff_,ff_,ff_,ff_,ff_,ff_,ff_,ff_,ff_] rfl rfl (by kernel_rfl) (fun _ _ _ h => h) (Or.inl ⟨by rfl, ?_⟩) ?_ ?_
 rotate_left
 ·intro w'
  go_simp
  with_reducible rfl
 rotate_left
 ·simp only [Act.put, List.setIfInBounds_toArray, List.set_cons_zero, List.set_cons_succ, i64_w, i32_w]
  rfl
 refine pure_ (i := 4) (N := some 25) (v := ?_) (a' := ?_) #[tt_,tt_,tt_,tt_,tt_,ff_,ff_,ff_,ff_,ff_,ff_,ff_,ff_,ff_,ff_,ff_,ff_,ff_] rfl rfl (by kernel_rfl) (fun _ _ _ h => h) (Or.inl ⟨by rfl, ?_⟩) ?_ ?_
 rotate_left
 ·intro w'
  go_simp
  with_reducible rfl
 rotate_left
 ·simp only [Act.put, List.setIfInBounds_toArray, List.set_cons_zero, List.set_cons_succ, i64_w, i32_w]
  rfl
 refine pure_ (i := 5) (N := some 26) (v := ?_) (a' := ?_) #[tt_,tt_,tt_,tt_,tt_,tt_,ff_,ff_,ff_,ff_,ff_,ff_,ff_,ff_,ff_,ff_,ff_,ff_] rfl rfl (by kernel_rfl) (fun _ _ _ h => h) (Or.inl ⟨by rfl, ?_⟩) ?_ ?_
 rotate_left
 ·intro w'
  go_simp
  with_reducible rfl
 rotate_left
 ·simp only [Act.put, List.setIfInBounds_toArray, List.set_cons_zero, List.set_cons_succ, i64_w, i32_w]
  rfl
 refine pure_ (i := 7) (N := some 28) (v := ?_) (a' := ?_) #[tt_,tt_,tt_,tt_,tt_,tt_,ff_,tt_,ff_,ff_,ff_,ff_,ff_,ff_,ff_,ff_,ff_,ff_] rfl rfl (by kernel_rfl) (fun _ _ _ h => h) (Or.inl ⟨by rfl, ?_⟩) ?_ ?_
 rotate_left
 ·intro w'
  go_simp
  with_reducible rfl
 rotate_left
 ·simp only [Act.put, List.setIfInBounds_toArray, List.set_cons_zero, List.set_cons_succ, i64_w, i32_w]
  rfl
 refine take_ (i := 8) (N := some 29) (v := ?_) (a' := ?_) #[tt_,tt_,tt_,tt_,tt_,tt_,ff_,tt_,tt_,ff_,ff_,ff_,ff_,ff_,ff_,ff_,ff_,ff_] rfl rfl (by kernel_rfl) (fun _ _ _ h => h) (Or.inl ⟨by rfl, ?_⟩) hHeld ?_ ?_
 rotate_left
 ·rintro w' ⟨s0, s1⟩
  go_simp
  with_reducible rfl
 rotate_left
 ·simp only [Act.put, List.setIfInBounds_toArray, List.set_cons_zero, List.set_cons_succ, i64_w, i32_w]
  rfl
 refine one_ (i := 6) (N := some 27) #[tt_,tt_,tt_,tt_,tt_,tt_,tt_,tt_,tt_,ff_,ff_,ff_,ff_,ff_,ff_,ff_,ff_,ff_] rfl rfl (by kernel_rfl) (by decide) (fun K hK => ?_)
 refine goes_ Try.func45 (by kernel_rfl) rfl #[.int .i64 (wn : Int)] (by rfl) rfl rfl (by (try simp only [List.map_toArray, List.map_cons, List.map_nil]); rfl) ?_
 with_reducible refine (rHalf wn _ HWN.out).mono ?_
 rintro e w5 ⟨rfl, hb⟩
 refine ⟨_, rfl, ?_⟩
 have P5 := Aside0.mk (blk_below P4.out hb)
 have R5 := Aside0.mk (blk_below R4.out hb)
 have B5 := Aside0.mk (below_step B4.out hb)
 clear hb
 refine hK.out _ _ ⟨(blk_cell P5.out 0).trans rfl, (blk_cell P5.out 1).trans rfl⟩ (fun hHeld => ?_)
 clear hK K
 refine norm_ (a' := ?_) ?_ ?_
 rotate_left
 ·show Act.put _ (some 27) _ = _
  simp only [Act.put, List.setIfInBounds_toArray, List.set_cons_zero, List.set_cons_succ, i64_w, i32_w]
  rfl
 refine pure_ (i := 9) (N := some 30) (v := ?_) (a' := ?_) #[tt_,tt_,tt_,tt_,tt_,tt_,tt_,tt_,tt_,tt_,ff_,ff_,ff_,ff_,ff_,ff_,ff_,ff_] rfl rfl (by kernel_rfl) (fun _ _ _ h => h) (Or.inl ⟨by rfl, ?_⟩) ?_ ?_
 rotate_left
 ·intro w'
  go_simp
  with_reducible rfl
 rotate_left
 ·simp only [Act.put, List.setIfInBounds_toArray, List.set_cons_zero, List.set_cons_succ, i64_w, i32_w]
  rfl
 refine pure_ (i := 10) (N := some 31) (v := ?_) (a' := ?_) #[tt_,tt_,tt_,tt_,tt_,tt_,tt_,tt_,tt_,tt_,tt_,ff_,ff_,ff_,ff_,ff_,ff_,ff_] rfl rfl (by kernel_rfl) (fun _ _ _ h => h) (Or.inl ⟨by rfl, ?_⟩) ?_ ?_
 rotate_left
 ·intro w'
  go_simp
  with_reducible rfl
 rotate_left
 ·simp only [Act.put, List.setIfInBounds_toArray, List.set_cons_zero, List.set_cons_succ, i64_w, i32_w]
  rfl
 refine pure_ (i := 11) (N := some 32) (v := ?_) (a' := ?_) #[tt_,tt_,tt_,tt_,tt_,tt_,tt_,tt_,tt_,tt_,tt_,tt_,ff_,ff_,ff_,ff_,ff_,ff_] rfl rfl (by kernel_rfl) (fun _ _ _ h => h) (Or.inl ⟨by rfl, ?_⟩) ?_ ?_
 rotate_left
 ·intro w'
  go_simp
  with_reducible rfl
 rotate_left
 ·simp only [Act.put, List.setIfInBounds_toArray, List.set_cons_zero, List.set_cons_succ, i64_w, i32_w]
  rfl
 refine pure_ (i := 12) (N := some 33) (v := ?_) (a' := ?_) #[tt_,tt_,tt_,tt_,tt_,tt_,tt_,tt_,tt_,tt_,tt_,tt_,tt_,ff_,ff_,ff_,ff_,ff_] rfl rfl (by kernel_rfl) (fun _ _ _ h => h) (Or.inl ⟨by rfl, ?_⟩) ?_ ?_
 rotate_left
 ·intro w'
  go_simp
  with_reducible rfl
 rotate_left
 ·simp only [Act.put, List.setIfInBounds_toArray, List.set_cons_zero, List.set_cons_succ, i64_w, i32_w]
  rfl
 refine pure_ (i := 14) (N := some 35) (v := ?_) (a' := ?_) #[tt_,tt_,tt_,tt_,tt_,tt_,tt_,tt_,tt_,tt_,tt_,tt_,tt_,ff_,tt_,ff_,ff_,ff_] rfl rfl (by kernel_rfl) (fun _ _ _ h => h) (Or.inl ⟨by rfl, ?_⟩) ?_ ?_
 rotate_left
 ·intro w'
  go_simp
  with_reducible rfl
 rotate_left
 ·simp only [Act.put, List.setIfInBounds_toArray, List.set_cons_zero, List.set_cons_succ, i64_w, i32_w]
  rfl
 refine take_ (i := 15) (N := some 36) (v := ?_) (a' := ?_) #[tt_,tt_,tt_,tt_,tt_,tt_,tt_,tt_,tt_,tt_,tt_,tt_,tt_,ff_,tt_,tt_,ff_,ff_] rfl rfl (by kernel_rfl) (fun _ _ _ h => h) (Or.inl ⟨by rfl, ?_⟩) hHeld ?_ ?_
 rotate_left
 ·rintro w' ⟨s0, s1⟩
  go_simp
  with_reducible rfl
 rotate_left
 ·simp only [Act.put, List.setIfInBounds_toArray, List.set_cons_zero, List.set_cons_succ, i64_w, i32_w]
  rfl
 refine one_ (i := 13) (N := some 34) #[tt_,tt_,tt_,tt_,tt_,tt_,tt_,tt_,tt_,tt_,tt_,tt_,tt_,tt_,tt_,tt_,ff_,ff_] rfl rfl (by kernel_rfl) (by decide) (fun K hK => ?_)
 refine goes_ Try.func45 (by kernel_rfl) rfl #[.int .i64 (hn : Int)] (by rfl) rfl rfl (by (try simp only [List.map_toArray, List.map_cons, List.map_nil]); rfl) ?_
 with_reducible refine (rHalf hn _ HHN.out).mono ?_
 rintro e w6 ⟨rfl, hb⟩
 refine ⟨_, rfl, ?_⟩
 have P6 := Aside0.mk (blk_below P5.out hb)
 have R6 := Aside0.mk (blk_below R5.out hb)
 have B6 := Aside0.mk (below_step B5.out hb)
 clear hb
 refine hK.out _ _ ⟨(blk_cell P6.out 0).trans rfl, (blk_cell P6.out 1).trans rfl⟩ (fun hHeld => ?_)
 clear hK K
 refine norm_ (a' := ?_) ?_ ?_
 rotate_left
 ·show Act.put _ (some 34) _ = _
  simp only [Act.put, List.setIfInBounds_toArray, List.set_cons_zero, List.set_cons_succ, i64_w, i32_w]
  rfl
 refine pure_ (i := 16) (N := some 37) (v := ?_) (a' := ?_) #[tt_,tt_,tt_,tt_,tt_,tt_,tt_,tt_,tt_,tt_,tt_,tt_,tt_,tt_,tt_,tt_,tt_,ff_] rfl rfl (by kernel_rfl) (fun _ _ _ h => h) (Or.inl ⟨by rfl, ?_⟩) ?_ ?_
 rotate_left
 ·intro w'
  go_simp
  with_reducible rfl
 rotate_left
 ·simp only [Act.put, List.setIfInBounds_toArray, List.set_cons_zero, List.set_cons_succ, i64_w, i32_w]
  rfl
 refine pure_ (i := 17) (N := some 38) (v := ?_) (a' := ?_) #[tt_,tt_,tt_,tt_,tt_,tt_,tt_,tt_,tt_,tt_,tt_,tt_,tt_,tt_,tt_,tt_,tt_,tt_] rfl rfl (by kernel_rfl) (fun _ _ _ h => h) (Or.inl ⟨by rfl, ?_⟩) ?_ ?_
 rotate_left
 ·intro w'
  go_simp
  with_reducible rfl
 rotate_left
 ·simp only [Act.put, List.setIfInBounds_toArray, List.set_cons_zero, List.set_cons_succ, i64_w, i32_w]
  rfl
 refine done_ (by kernel_rfl) ?_
 clear hHeld
 have p1 := (blk_cell P6.out 1).trans rfl
 go_wp2_with (first | ((with_reducible refine gate_dst (N := 9) rfl ?_); refine box_event ?hg (N := 9) ?hd (cs := #[.int .i64 0, .int .i64 0, .slice none 0 0]) (t := 25) ?hr ?_; (case hd => rfl); (case hg => rfl); (case hr => first | (go_simp; done) | (go_simp; rfl)); intro gT hg_ w7 hm_ hb_; have Z7 := Aside0.mk (hm_); have BB7 := Aside0.mk (hb_); have GT := Aside0.mk (show w6.heap.size ≤ gT by rw [hg_]; exact Nat.le_refl _); clear p1; clear hm_ hb_ hg_) | ((with_reducible refine gate_store (p := 9) rfl ?_); refine storeP_event rfl rfl rfl gT (wn : Int) (H : Int) none 0 0 _ _ _ rfl rfl Z7.out ?_; intro w8 hm_ hst_ hbl_; have T8 := Aside0.mk (hm_); have B8 := Aside0.mk (BB7.out.trans (hbl_ _ GT.out)); clear hm_ hst_ hbl_))
 have X4 := Aside0.mk (HX.out.below B6.out)
 have HI0 : Aside0 (M2 w6 gT wn H w8 (.slice none 0 0) []) := ⟨⟨Kd.R_nil _ _ _ _ _, T8.out, B8.out⟩⟩
 obtain ⟨v0, hv0⟩ : ∃ v0, v0 = Value.slice none 0 0 := ⟨_, rfl⟩
 obtain ⟨xs0, hxs0⟩ : ∃ xs0 : List Nat, xs0 = [] := ⟨_, rfl⟩
 rw [← hv0, ← hxs0] at HI0
 have HX0 : Aside0 (xs0 = gridTo (rF expandS W p) wn (0 * wn)) := ⟨by rw [hxs0, Nat.zero_mul]; rfl⟩
 clear hv0 hxs0 T8 B8 Z7 BB7 P4 R4 B4 P5 R5 B5
 go_loopw [10] (fun yv wr => ∃ (y : Nat) (v : Value) (xs : List Nat), y ≤ H ∧ yv = .int .i64 (y : Int) ∧ Aside0 (xs = gridTo (rF expandS W p) wn (y * wn)) ∧ Aside0 (M2 w6 gT wn H wr v xs)) (fun yv _ => H - (intOf yv).toNat)
 case atStart => exact ⟨0, v0, xs0, Nat.zero_le _, rfl, HX0, HI0⟩
 case round =>
  clear HI0 HX0
  obtain ⟨y, v, xs, hy, rfl, HXY, HM⟩ := hrel
  have p1 := (blk_cell (blk_below P6.out HM.out.2.2) 1).trans rfl
  by_cases hlt : y < H
  ·have c1 : decide ((y : Int) < (H : Int)) = true := decide_eq_true (by omega)
   have HLT := Aside0.mk hlt
   obtain ⟨ro, hro⟩ : ∃ ro, dbl (rowOf p W y) W wn = ro := ⟨_, rfl⟩
   have HRO := Aside0.mk hro
   have HRL : Aside0 (∀ i, gt (rowOf p W y) i < 4294967296) := ⟨map_lt W (fun i => HPX.out _)⟩
   obtain ⟨xs', hxs'⟩ : ∃ xs', xs ++ ro = xs' := ⟨_, rfl⟩
   have HXA := Aside0.mk hxs'
   have HXS : Aside0 (xs' = gridTo (rF expandS W p) wn ((y + 1) * wn)) := ⟨by rw [← hxs', HXY.out, ← hro]; exact gridTo_row (rF expandS W p) wn y⟩
   have HXN : Aside0 ((xs.length + wn) * 4 ≤ 140737488355328) := ⟨by
    rw [HXY.out, gridTo_length]
    have h1 : y * wn + wn ≤ H * wn := by rw [← Nat.succ_mul]; exact Nat.mul_le_mul_right wn hlt
    have h9 := HWH.out
    omega⟩
   obtain ⟨A3, c3, hv, hc3, hC3⟩ := Kd.R_reads HM.out.1
   obtain ⟨n3, hn3⟩ : ∃ n3, xs.length = n3 := ⟨_, rfl⟩
   rw [hn3] at hv
   subst hv
   have V30 := Aside0.mk (Kd.R_drew HM.out.1)
   have T30 := Aside0.mk (blk_drew HM.out.2.1)
   have BT30 := Aside0.mk (below_drew HM.out.2.2)
   clear hro hxs' hc3 hC3 hn3 HM
   go_upto_region 10 with (fail)
   refine start_ (n := 10) (S := fun w' => w'.cell? ⟨gT, 2, none⟩ = some (.slice A3 n3 c3) ∧ w'.cell? ⟨gP, 0, none⟩ = some (.int .i64 (W : Int)) ∧ w'.cell? ⟨gP, 1, none⟩ = some (.int .i64 (H : Int)) ∧ w'.cell? ⟨gP, 2, none⟩ = some (.slice A n cap)) (ds := [7, 9]) #[ff_,ff_,ff_,ff_,ff_,ff_,ff_,ff_,ff_,ff_] (by kernel_rfl) rfl rfl ⟨(blk_cell T30.out 2).trans rfl, (blk_cell (blk_below P6.out BT30.out) 0).trans rfl, (blk_cell (blk_below P6.out BT30.out) 1).trans rfl, (blk_cell (blk_below P6.out BT30.out) 2).trans rfl⟩ (fun hHeld => ?_)
   generalize wr.drew = w30 at *
   refine pure_ (i := 0) (N := some 50) (v := ?_) (a' := ?_) #[tt_,ff_,ff_,ff_,ff_,ff_,ff_,ff_,ff_,ff_] rfl rfl (by kernel_rfl) (fun _ _ _ h => h) (Or.inl ⟨by rfl, ?_⟩) ?_ ?_
   rotate_left
   ·intro w'
    go_simp
    with_reducible rfl
   rotate_left
   ·simp only [Act.put, List.setIfInBounds_toArray, List.set_cons_zero, List.set_cons_succ, i64_w, i32_w]
    rfl
   refine pure_ (i := 3) (N := some 53) (v := ?_) (a' := ?_) #[tt_,ff_,ff_,tt_,ff_,ff_,ff_,ff_,ff_,ff_] rfl rfl (by kernel_rfl) (fun _ _ _ h => h) (Or.inl ⟨by rfl, ?_⟩) ?_ ?_
   rotate_left
   ·intro w'
    go_simp
    with_reducible rfl
   rotate_left
   ·simp only [Act.put, List.setIfInBounds_toArray, List.set_cons_zero, List.set_cons_succ, i64_w, i32_w]
    rfl
   refine pure_ (i := 5) (N := some 55) (v := ?_) (a' := ?_) #[tt_,ff_,ff_,tt_,ff_,tt_,ff_,ff_,ff_,ff_] rfl rfl (by kernel_rfl) (fun _ _ _ h => h) (Or.inl ⟨by rfl, ?_⟩) ?_ ?_
   rotate_left
   ·intro w'
    go_simp
    with_reducible rfl
   rotate_left
   ·simp only [Act.put, List.setIfInBounds_toArray, List.set_cons_zero, List.set_cons_succ, i64_w, i32_w]
    rfl
   refine take_ (i := 1) (N := some 51) (v := ?_) (a' := ?_) #[tt_,tt_,ff_,tt_,ff_,tt_,ff_,ff_,ff_,ff_] rfl rfl (by kernel_rfl) (fun _ _ _ h => h) (Or.inl ⟨by rfl, ?_⟩) hHeld ?_ ?_
   rotate_left
   ·rintro w' ⟨s0, s1, s2, s3⟩
    go_simp
    with_reducible rfl
   rotate_left
   ·simp only [Act.put, List.setIfInBounds_toArray, List.set_cons_zero, List.set_cons_succ, i64_w, i32_w]
    rfl
   refine take_ (i := 2) (N := some 52) (v := ?_) (a' := ?_) #[tt_,tt_,tt_,tt_,ff_,tt_,ff_,ff_,ff_,ff_] rfl rfl (by kernel_rfl) (fun _ _ _ h => h) (Or.inl ⟨by rfl, ?_⟩) hHeld ?_ ?_
   rotate_left
   ·rintro w' ⟨s0, s1, s2, s3⟩
    go_simp
    with_reducible rfl
   rotate_left
   ·simp only [Act.put, List.setIfInBounds_toArray, List.set_cons_zero, List.set_cons_succ, i64_w, i32_w]
    rfl
   refine one_ (i := 4) (N := some 54) #[tt_,tt_,tt_,tt_,tt_,tt_,ff_,ff_,ff_,ff_] rfl rfl (by kernel_rfl) (by decide) (fun K hK => ?_)
   refine goes_ Try.func47 (by kernel_rfl) rfl #[.agg #[.int .i64 (W : Int), .int .i64 (H : Int), .slice A n cap], .bool false, .int .i64 (y : Int)] (by rfl) rfl rfl (by (try simp only [List.map_toArray, List.map_cons, List.map_nil]); rfl) ?_
   refine (rRow_calls (X4.out.below BT30.out) HLT.out HWB.out.2 HHB.out.2 HPN.out).mono ?_
   rintro e w31 ⟨A31, c31, rfl, hL, hb⟩
   refine ⟨_, rfl, ?_⟩
   have T31 := Aside0.mk (blk_below T30.out hb)
   have BT31 := Aside0.mk (below_step BT30.out hb)
   have V31 := Aside0.mk (Kd.R_below V30.out hb)
   have L31 := Aside0.mk (hL)
   clear hb hL
   refine hK.out _ _ ⟨(blk_cell T31.out 2).trans rfl, (blk_cell (blk_below P6.out BT31.out) 0).trans rfl, (blk_cell (blk_below P6.out BT31.out) 1).trans rfl, (blk_cell (blk_below P6.out BT31.out) 2).trans rfl⟩ (fun hHeld => ?_)
   clear hK K
   refine norm_ (a' := ?_) ?_ ?_
   rotate_left
   ·show Act.put _ (some 54) _ = _
    simp only [Act.put, List.setIfInBounds_toArray, List.set_cons_zero, List.set_cons_succ, i64_w, i32_w]
    rfl
   refine one_ (i := 6) (N := some 56) #[tt_,tt_,tt_,tt_,tt_,tt_,tt_,ff_,ff_,ff_] rfl rfl (by kernel_rfl) (by decide) (fun K hK => ?_)
   refine goes_ Try.func50 (by kernel_rfl) rfl #[.slice A31 W c31, .int .i64 (wn : Int)] (by rfl) rfl rfl (by (try simp only [List.map_toArray, List.map_cons, List.map_nil]); rfl) ?_
   refine (rDoubled L31.out HWB.out HFW.out HWN.out HRL.out).mono ?_
   rw [HRO.out]
   rintro e w32 ⟨A32, c32, rfl, hR, hL, hb⟩
   refine ⟨_, rfl, ?_⟩
   have T32 := Aside0.mk (blk_below T31.out hb)
   have BT32 := Aside0.mk (below_step BT31.out hb)
   have V32 := Aside0.mk (Kd.R_below V31.out hb)
   have L32 := Aside0.mk (hL)
   clear hb hL hR
   refine hK.out _ _ ⟨(blk_cell T32.out 2).trans rfl, (blk_cell (blk_below P6.out BT32.out) 0).trans rfl, (blk_cell (blk_below P6.out BT32.out) 1).trans rfl, (blk_cell (blk_below P6.out BT32.out) 2).trans rfl⟩ (fun hHeld => ?_)
   clear hK K
   refine norm_ (a' := ?_) ?_ ?_
   rotate_left
   ·show Act.put _ (some 56) _ = _
    simp only [Act.put, List.setIfInBounds_toArray, List.set_cons_zero, List.set_cons_succ, i64_w, i32_w]
    rfl
   refine last_ (i := 7) (N := some 57) #[tt_,tt_,tt_,tt_,tt_,tt_,tt_,tt_,ff_,ff_] rfl rfl (by kernel_rfl) (by decide) (fun K hK => ?_)
   refine Kd.R_append_rows_step (nat .u32) (Rr := (nat .u32).K w32) (w0 := w6) w6.heap.size (by rfl) (.tmp 51) (.tmp 56) 23 50 (.int .u32 0) 4 rfl Try.underlying23 info50 rfl (by decide) (by omega) (.slice A3 n3 c3) xs ro A32 wn c32 (fun _ => True) (fun _ => False) rfl rfl V32.out ?aR (fun x cs h => h) (fun _ h => h.elim) (fun _ _ => trivial) BT32.out BT32.out.size HXN.out ?_
   (case aR => exact L32.out.1)
   intro v7 w7 hR1 hB1 hg1 hat1
   rw [HXA.out] at hR1
   obtain ⟨A7, c7, hv7⟩ := Kd.R_slice hR1
   obtain ⟨n7, hn7⟩ : ∃ n7, xs'.length = n7 := ⟨_, rfl⟩
   rw [hn7] at hv7
   subst hv7
   have V7 := Aside0.mk (hR1)
   have BT7 := Aside0.mk (hB1)
   have T7 := Aside0.mk (blk_grown T32.out hg1 (Kd.R_ne V32.out T32.out (by decide)))
   clear hR1 hB1 hg1 hat1 hn7
   have q2 := (blk_cell T7.out 2).trans rfl
   have fr2 := blk_frozen T7.out 2
   refine hK.out _ _ ?_
   clear hK K
   refine norm_ (a' := ?_) ?_ ?_
   rotate_left
   ·show Act.put _ (some 57) _ = _
    simp only [Act.put, List.setIfInBounds_toArray, List.set_cons_zero, List.set_cons_succ, i64_w, i32_w]
    rfl
   refine pure_ (i := 8) (N := some 58) (v := ?_) (a' := ?_) #[tt_,tt_,tt_,tt_,tt_,tt_,tt_,tt_,tt_,ff_] rfl rfl (by kernel_rfl) (fun _ _ _ h => h) (Or.inl ⟨by rfl, ?_⟩) ?_ ?_
   rotate_left
   ·intro w'
    go_simp
    with_reducible rfl
   rotate_left
   ·simp only [Act.put, List.setIfInBounds_toArray, List.set_cons_zero, List.set_cons_succ, i64_w, i32_w]
    rfl
   refine last_ (i := 9) (N := none) #[tt_,tt_,tt_,tt_,tt_,tt_,tt_,tt_,tt_,tt_] rfl rfl (by kernel_rfl) (by decide) (fun K hK => ?_)
   refine skip_ (w1 := ?_) (by rfl) rfl ?_ ?_
   rotate_left
   ·go_simp
    rfl
   refine hK.out _ _ ?_
   clear hK K
   refine done_ (by kernel_rfl) ?_
   clear hHeld
   obtain ⟨w10, hw10⟩ : ∃ w10, w10 = w7.setCell ⟨gT, 2, none⟩ (.slice A7 n7 c7) := ⟨_, rfl⟩
   rw [← hw10]
   have P10 : w10.heap[gT]? = some (.cells #[.int .i64 (wn : Int), .int .i64 (H : Int), .slice A7 n7 c7] 25 (0, 0)) := by rw [hw10]; exact (blk_set T7.out 2 _).trans rfl
   have st10 : ∀ k, k ≠ gT → w10.heap[k]? = w7.heap[k]? := by rw [hw10]; exact fun k hk => Below.heap_setCell _ _ _ k hk
   have R10 : (nat .u32).R 50 w10 w6.heap.size (fun _ => True) (.slice A7 n7 c7) xs' := Kd.R_mono (Kd.R_move (Kd.R_types V7.out T7.out (by decide)) (fun k hk => st10 k hk.2)) (fun _ _ => trivial)
   have B10 : Below w6.heap.size w6 w10 := by rw [hw10]; exact BT7.out.setCell (p := ⟨gT, 2, none⟩) GT.out _
   have HJ : Aside0 (M2 w6 gT wn H w10 (.slice A7 n7 c7) xs') := ⟨R10, P10, B10⟩
   clear hw10 P10 st10 R10 B10
   go_wp2
   go_roundw
   case measure => simp [intOf]; omega
   case rel => exact ⟨y + 1, _, xs', by omega, by go_num, HXS, HJ⟩
  ·obtain rfl : H = y := by omega
   have c1 : decide ((H : Int) < (H : Int)) = false := decide_eq_false (by omega)
   obtain ⟨mid, hmid⟩ : ∃ mid, midZ expandS W H wn p = mid := ⟨_, rfl⟩
   have hxm : xs = mid := by rw [HXY.out, HMD.out, hmid]
   have hml : mid.length = wn * H := by rw [← hmid, midZ_length, Nat.mul_comm]
   obtain ⟨A5, n5, c5, hv, hL5⟩ := PL.of HM.out.1
   subst hv
   subst hxm
   rw [hmid] at HRS HML
   have P20 := Aside0.mk (blk_below P6.out HM.out.2.2)
   have R20 := Aside0.mk (blk_below R6.out HM.out.2.2)
   have T20 := Aside0.mk HM.out.2.1
   have B20 := Aside0.mk (below_step B6.out HM.out.2.2)
   have LM := Aside0.mk hL5
   have HMN := Aside0.mk hml
   have HWB2 := Aside0.mk hwb
   clear hmid hml hL5 HM HXY
   generalize wr = w20 at *
   go_wp2_with (first | (go_at_call 48; refine (rBlank_calls _ (by rw [HKK.out]; exact HKB.out.2)).mono ?_; rintro e w23 ⟨v9, rfl, hR, hb⟩; obtain ⟨go, co, hv9, hgo, hlt9, hty9⟩ := Kd.R_form hR (by rw [List.length_replicate, HKK.out]; exact HKB.out.1); rw [List.length_replicate, HKK.out] at hv9; subst hv9; have BR23 := Aside0.mk (hb); have V23 := Aside0.mk (hR); have GO := Aside0.mk (hgo); clear hR hgo hlt9 hty9 hb p1) | ((with_reducible refine gate_dst (N := 11) rfl ?_); refine box_event ?hg (N := 11) ?hd (cs := #[.int .i64 0, .int .i64 0, .slice none 0 0]) (t := 25) ?hr ?_; (case hd => rfl); (case hg => rfl); (case hr => first | (go_simp; done) | (go_simp; rfl)); intro gO hg_ w24 hm_ hb_; have Z24 := Aside0.mk (hm_); have BR24 := Aside0.mk (below_step BR23.out hb_); have V24 := Aside0.mk (Kd.R_below V23.out hb_); have GE := Aside0.mk (show w20.heap.size ≤ gO by rw [hg_]; exact BR23.out.size); clear hm_ hb_ hg_) | ((with_reducible refine gate_store (p := 11) rfl ?_); refine storeP_event rfl rfl rfl gO (wn : Int) (hn : Int) (some ⟨go, 0, none⟩) kz co _ _ _ rfl rfl Z24.out ?_; intro w21 hm_ hst_ hbl_; have M21 := Aside0.mk (show M3 w20 gO wn hn go kz co w21 (List.replicate (wn * hn) 0) from ⟨Kd.R_mono (Kd.R_move (Kd.R_types V24.out Z24.out (by decide)) (fun k hk => hst_ k hk.2)) (fun _ _ => trivial), hm_, BR24.out.trans (hbl_ _ GE.out)⟩); clear hm_ hst_ hbl_))

   have HD0 : Aside0 (Done (cG expandS wn H xs) wn hn 0 0 (List.replicate (wn * hn) 0)) := ⟨Done.zero _ _ _⟩
   obtain ⟨L0, hL0⟩ : ∃ L0, List.replicate (wn * hn) 0 = L0 := ⟨_, rfl⟩
   rw [hL0] at HD0 M21
   obtain ⟨G, hG⟩ : ∃ G, cG expandS wn H xs = G := ⟨_, rfl⟩
   have HGG := Aside0.mk hG
   rw [hG] at HD0 HRS
   clear hL0 hG V23 V24 Z24 BR23 BR24
   go_loopw [12] (fun xv wr => ∃ (x : Nat) (L : List Nat), x ≤ wn ∧ xv = .int .i64 (x : Int) ∧ Aside0 (Done G wn hn x 0 L) ∧ Aside0 (M3 w20 gO wn hn go kz co wr L)) (fun xv _ => wn - (intOf xv).toNat)
   case atStart => exact ⟨0, L0, Nat.zero_le _, rfl, HD0, M21⟩
   case round =>
    clear HD0 M21
    obtain ⟨x, L, hx, rfl, HD, HM⟩ := hrel
    have t0 := (blk_cell (blk_below T20.out HM.out.2.2) 0).trans rfl
    by_cases hxl : x < wn
    ·have c2 : decide ((x : Int) < (wn : Int)) = true := decide_eq_true (by omega)
     have HXL := Aside0.mk hxl
     have t1 := (blk_cell (blk_below T20.out HM.out.2.2) 1).trans rfl
     have t2 := (blk_cell (blk_below T20.out HM.out.2.2) 2).trans rfl
     obtain ⟨ls, hls⟩ : ∃ ls, dbl (colOf xs wn H x) H hn = ls := ⟨_, rfl⟩
     have HLS := Aside0.mk hls
     have HCL : Aside0 (∀ i, gt (colOf xs wn H x) i < 4294967296) := ⟨map_lt H (fun i => HML.out _)⟩
     have HLZ : Aside0 (∀ k, k < hn → gt ls k = G x k) := ⟨fun k hk => by
      rw [← hls, ← HGG.out]
      unfold dbl gt cG
      rw [List.getD_eq_getElem?_getD, List.getElem?_map, List.getElem?_range hk]
      rfl⟩
     clear hls
     go_wp2_with (first | (go_at_call 50; refine (rDoubled L31.out HHB.out HFH.out HHN.out HCL.out).mono ?_; rw [HLS.out]; rintro e w32 ⟨A32, c32, rfl, hR, hL, hb⟩; have M32 := Aside0.mk (M3_below M31.out hb); have V32 := Aside0.mk (hR); have GLT := Aside0.mk (show go < w31.heap.size from M3_lt M31.out); clear hb hL hR) | (go_at_call 47; refine (rCol_calls (LM.out.below HM.out.2.2) HXL.out (by have := HWB2.out; omega) HHB.out.2 HMN.out).mono ?_; rintro e w31 ⟨A31, c31, rfl, hL, hb⟩; have M31 := Aside0.mk (M3_below HM.out hb); have L31 := Aside0.mk (hL); clear hb hL t0 t1 t2))
     have HD1 := HD
     obtain ⟨L1, hL1⟩ : ∃ L1, L1 = L := ⟨_, rfl⟩
     rw [← hL1] at M32 HD1
     clear HM HD hL1
     go_loopw [14] (fun yv wq => ∃ (k : Nat) (L : List Nat), k ≤ hn ∧ yv = .int .i64 (k : Int) ∧ Aside0 (Done G wn hn x k L) ∧ Aside0 (M3 w20 gO wn hn go kz co wq L) ∧ Aside0 ((nat .u32).R 50 wq w31.heap.size (fun _ => True) (.slice A32 hn c32) ls)) (fun yv _ => hn - (intOf yv).toNat)
     case atStart => exact ⟨0, L1, Nat.zero_le _, rfl, HD1, M32, V32⟩
     case round =>
      clear HD1 M32 V32 M31 L31
      obtain ⟨k, L, hk, rfl, HD, HM, HV⟩ := hrel
      by_cases hkl : k < hn
      ·have c3 : decide ((k : Int) < (hn : Int)) = true := decide_eq_true (by omega)
       have HKL := Aside0.mk hkl
       have i1 : ((k : Int) < (hn : Int)) = True := eq_true (by omega)
       obtain ⟨k1, hk1⟩ : ∃ k1, k * wn = k1 := ⟨_, rfl⟩
       obtain ⟨k2, hk2⟩ : ∃ k2, k1 + x = k2 := ⟨_, rfl⟩
       have hk2K : k2 < kz := by rw [← hk2, ← hk1, ← HKK.out, Nat.mul_comm wn hn]; exact idx_lt2 hxl hkl
       have i2 : ((k2 : Int) < (kz : Int)) = True := eq_true (by omega)
       have hKb2 := HKB.out.2
       have hk1b : k1 ≤ k2 := by omega
       have e1 : IntKind.i64.wrap ((k : Int) * (wn : Int)) = (k1 : Int) := by rw [← Int.natCast_mul, hk1]; exact wi64 (by omega) (by omega)
       have e2 : IntKind.i64.wrap ((k1 : Int) + (x : Int)) = (k2 : Int) := by rw [← hk2]; exact wi64 (by omega) (by omega)
       have HK12 : Aside0 (k * wn + x = k2) := ⟨by rw [hk1, hk2]⟩
       obtain ⟨ad, hA, hxz⟩ := C_nat (Kd.R_reads' HV.out).2.2 k (by rw [← HLS.out]; simp [dbl]; exact hkl)
       subst hA
       obtain ⟨z, hz⟩ : ∃ z, gt ls k = z := ⟨_, rfl⟩
       rw [hz] at hxz
       have HZ : Aside0 (z = G x k) := ⟨by rw [← hz]; exact HLZ.out k hkl⟩
       clear hk1 hk2 hz hkl
       go_upto_region 19 with (fail)
       have MM := Aside0.mk (M3_drew HM.out)
       have TT := Aside0.mk (blk_below T20.out MM.out.2.2)
       have VV := Aside0.mk (Kd.R_drew HV.out)
       have XX : Aside0 (wr.drew.cell? (ad.add k) = some (.int .u32 (z : Int))) := ⟨hxz⟩
       have z1 := (M3_cell MM.out k2 hk2K).1
       have zf := (M3_cell MM.out k2 hk2K).2
       clear hxz HM HV
       refine start_ (n := 13) (S := fun w' => w'.cell? ⟨gO, 2, none⟩ = some (.slice (some ⟨go, 0, none⟩) kz co) ∧ w'.cell? (ad.add k) = some (.int .u32 (z : Int))) (ds := [12]) #[ff_,ff_,ff_,ff_,ff_,ff_,ff_,ff_,ff_,ff_,ff_,ff_,ff_] (by kernel_rfl) rfl rfl ⟨(blk_cell MM.out.2.1 2).trans rfl, XX.out⟩ (fun hHeld => ?_)
       generalize wr.drew = w33 at *
       refine pure_ (i := 0) (N := some 77) (v := ?_) (a' := ?_) #[tt_,ff_,ff_,ff_,ff_,ff_,ff_,ff_,ff_,ff_,ff_,ff_,ff_] rfl rfl (by kernel_rfl) (fun _ _ _ h => h) (Or.inl ⟨by rfl, ?_⟩) ?_ ?_
       rotate_left
       ·intro w'
        go_simp
        with_reducible rfl
       rotate_left
       ·simp only [Act.put, List.setIfInBounds_toArray, List.set_cons_zero, List.set_cons_succ, i64_w, i32_w]
        rfl
       refine pure_ (i := 2) (N := some 79) (v := ?_) (a' := ?_) #[tt_,ff_,tt_,ff_,ff_,ff_,ff_,ff_,ff_,ff_,ff_,ff_,ff_] rfl rfl (by kernel_rfl) (fun _ _ _ h => h) (Or.inl ⟨by rfl, ?_⟩) ?_ ?_
       rotate_left
       ·intro w'
        go_simp
        with_reducible rfl
       rotate_left
       ·simp only [Act.put, List.setIfInBounds_toArray, List.set_cons_zero, List.set_cons_succ, i64_w, i32_w]
        rfl
       refine pure_ (i := 3) (N := some 80) (v := ?_) (a' := ?_) #[tt_,ff_,tt_,tt_,ff_,ff_,ff_,ff_,ff_,ff_,ff_,ff_,ff_] rfl rfl (by kernel_rfl) (fun _ _ _ h => h) (Or.inl ⟨by rfl, ?_⟩) ?_ ?_
       rotate_left
       ·intro w'
        go_simp
        with_reducible rfl
       rotate_left
       ·simp only [Act.put, List.setIfInBounds_toArray, List.set_cons_zero, List.set_cons_succ, i64_w, i32_w]
        rfl
       refine pure_ (i := 4) (N := some 81) (v := ?_) (a' := ?_) #[tt_,ff_,tt_,tt_,tt_,ff_,ff_,ff_,ff_,ff_,ff_,ff_,ff_] rfl rfl (by kernel_rfl) (fun _ _ _ h => h) (Or.inl ⟨by rfl, ?_⟩) ?_ ?_
       rotate_left
       ·intro w'
        go_simp
        with_reducible rfl
       rotate_left
       ·simp only [Act.put, List.setIfInBounds_toArray, List.set_cons_zero, List.set_cons_succ, i64_w, i32_w]
        rfl
       refine pure_ (i := 5) (N := some 82) (v := ?_) (a' := ?_) #[tt_,ff_,tt_,tt_,tt_,tt_,ff_,ff_,ff_,ff_,ff_,ff_,ff_] rfl rfl (by kernel_rfl) (fun _ _ _ h => h) (Or.inl ⟨by rfl, ?_⟩) ?_ ?_
       rotate_left
       ·intro w'
        go_simp
        with_reducible rfl
       rotate_left
       ·simp only [Act.put, List.setIfInBounds_toArray, List.set_cons_zero, List.set_cons_succ, i64_w, i32_w]
        rfl
       refine pure_ (i := 6) (N := some 83) (v := ?_) (a' := ?_) #[tt_,ff_,tt_,tt_,tt_,tt_,tt_,ff_,ff_,ff_,ff_,ff_,ff_] rfl rfl (by kernel_rfl) (fun _ _ _ h => h) (Or.inl ⟨by rfl, ?_⟩) ?_ ?_
       rotate_left
       ·intro w'
        go_simp
        with_reducible rfl
       rotate_left
       ·simp only [Act.put, List.setIfInBounds_toArray, List.set_cons_zero, List.set_cons_succ, i64_w, i32_w]
        rfl
       refine pure_ (i := 7) (N := some 84) (v := ?_) (a' := ?_) #[tt_,ff_,tt_,tt_,tt_,tt_,tt_,tt_,ff_,ff_,ff_,ff_,ff_] rfl rfl (by kernel_rfl) (fun _ _ _ h => h) (Or.inl ⟨by rfl, ?_⟩) ?_ ?_
       rotate_left
       ·intro w'
        go_simp
        with_reducible rfl
       rotate_left
       ·simp only [Act.put, List.setIfInBounds_toArray, List.set_cons_zero, List.set_cons_succ, i64_w, i32_w]
        rfl
       refine pure_ (i := 8) (N := some 85) (v := ?_) (a' := ?_) #[tt_,ff_,tt_,tt_,tt_,tt_,tt_,tt_,tt_,ff_,ff_,ff_,ff_] rfl rfl (by kernel_rfl) (fun _ _ _ h => h) (Or.inl ⟨by rfl, ?_⟩) ?_ ?_
       rotate_left
       ·intro w'
        go_simp
        with_reducible rfl
       rotate_left
       ·simp only [Act.put, List.setIfInBounds_toArray, List.set_cons_zero, List.set_cons_succ, i64_w, i32_w]
        rfl
       refine pure_ (i := 9) (N := some 86) (v := ?_) (a' := ?_) #[tt_,ff_,tt_,tt_,tt_,tt_,tt_,tt_,tt_,tt_,ff_,ff_,ff_] rfl rfl (by kernel_rfl) (fun _ _ _ h => h) (Or.inl ⟨by rfl, ?_⟩) ?_ ?_
       rotate_left
       ·intro w'
        go_simp
        with_reducible rfl
       rotate_left
       ·simp only [Act.put, List.setIfInBounds_toArray, List.set_cons_zero, List.set_cons_succ, i64_w, i32_w]
        rfl
       refine take_ (i := 1) (N := some 78) (v := ?_) (a' := ?_) #[tt_,tt_,tt_,tt_,tt_,tt_,tt_,tt_,tt_,tt_,ff_,ff_,ff_] rfl rfl (by kernel_rfl) (fun _ _ _ h => h) (Or.inl ⟨by rfl, ?_⟩) hHeld ?_ ?_
       rotate_left
       ·rintro w' ⟨s0, s1⟩
        go_simp
        with_reducible rfl
       rotate_left
       ·simp only [Act.put, List.setIfInBounds_toArray, List.set_cons_zero, List.set_cons_succ, i64_w, i32_w]
        rfl
       refine take_ (i := 10) (N := some 87) (v := ?_) (a' := ?_) #[tt_,tt_,tt_,tt_,tt_,tt_,tt_,tt_,tt_,tt_,tt_,ff_,ff_] rfl rfl (by kernel_rfl) (fun _ _ _ h => h) (Or.inl ⟨by rfl, ?_⟩) hHeld ?_ ?_
       rotate_left
       ·rintro w' ⟨s0, s1⟩
        go_simp
        with_reducible rfl
       rotate_left
       ·simp only [Act.put, List.setIfInBounds_toArray, List.set_cons_zero, List.set_cons_succ, i64_w, i32_w]
        rfl
       refine pure_ (i := 11) (N := some 88) (v := ?_) (a' := ?_) #[tt_,tt_,tt_,tt_,tt_,tt_,tt_,tt_,tt_,tt_,tt_,tt_,ff_] rfl rfl (by kernel_rfl) (fun _ _ _ h => h) (Or.inl ⟨by rfl, ?_⟩) ?_ ?_
       rotate_left
       ·intro w'
        go_simp
        with_reducible rfl
       rotate_left
       ·simp only [Act.put, List.setIfInBounds_toArray, List.set_cons_zero, List.set_cons_succ, i64_w, i32_w]
        rfl
       refine last_ (i := 12) (N := none) #[tt_,tt_,tt_,tt_,tt_,tt_,tt_,tt_,tt_,tt_,tt_,tt_,tt_] rfl rfl (by kernel_rfl) (by decide) (fun K hK => ?_)
       refine skip_ (w1 := ?_) (by rfl) rfl ?_ ?_
       rotate_left
       ·go_simp
        rfl
       refine hK.out _ _ ?_
       clear hK K
       refine done_ (by kernel_rfl) ?_
       have MN := Aside0.mk (M3_put MM.out k2 z GO.out)
       have VN := Aside0.mk (R_setn (g := go) (i := k2) (u := .int .u32 (z : Int)) VV.out GLT.out)
       have DN : Aside0 (Done G wn hn x (k + 1) (L.set k2 z)) := ⟨by rw [HZ.out, ← HK12.out]; exact HD.out.put HXL.out HKL.out⟩
       generalize w33.setCell ⟨go, k2, none⟩ (.int .u32 (z : Int)) = wm at *
       clear z1 zf XX MM TT VV hHeld
       go_wp2
       go_roundw
       case measure => simp [intOf]; have := HKL.out; omega
       case rel => exact ⟨k + 1, L.set k2 z, HKL.out, by go_num, DN, MN, VN⟩
      ·obtain rfl : hn = k := by omega
       have c3 : decide ((hn : Int) < (hn : Int)) = false := decide_eq_false (by omega)
       have DN := Aside0.mk HD.out.next
       clear HD HV
       go_wp2
       go_roundw
       case measure => simp [intOf]; have := HXL.out; omega
       case rel => exact ⟨x + 1, L, HXL.out, by go_num, DN, HM⟩
    ·obtain rfl : wn = x := by omega
     have c2 : decide ((wn : Int) < (wn : Int)) = false := decide_eq_false (by omega)
     have o0 := (blk_cell HM.out.2.1 0).trans rfl
     have o1 := (blk_cell HM.out.2.1 1).trans rfl
     have o2 := (blk_cell HM.out.2.1 2).trans rfl
     have RR := Aside0.mk (blk_below R20.out HM.out.2.2)
     have BB := Aside0.mk (below_step B20.out HM.out.2.2)
     have e5 : L = resZ expandS W H wn hn p := (HD.out.all hwb.1).trans HRS.out
     have E5 := Aside0.mk e5
     clear e5 HD
     go_wp2_with (first | ((with_reducible refine gate_store (p := 6) rfl ?_); refine storeP_event rfl rfl rfl gR (wn : Int) (hn : Int) (some ⟨go, 0, none⟩) kz co _ _ _ rfl rfl RR.out ?_; intro w40 hm_ hst_ hbl_; have R40 := Aside0.mk (hm_); have V40 := Aside0.mk (Kd.R_mono (Kd.R_move (Kd.R_types HM.out.1 RR.out (by decide)) (fun k hk => hst_ k hk.2)) (fun _ _ => trivial)); have B40 := Aside0.mk (BB.out.trans (hbl_ _ GR.out)); clear hm_ hst_ hbl_))
     refine bodyPost_ret (results_ct rfl _ _ gR 25 #[.int .i64 (wn : Int), .int .i64 (hn : Int), .slice (some ⟨go, 0, none⟩) kz co] (0, 0) _ rfl R40.out Try.underlying25 rfl (by kernel_rfl)) rfl ?_
     exact ⟨_, rfl, by rw [← E5.out]; exact Kd.R_lower V40.out B20.out.size, B40.out⟩
end Go.Proofs.Ytodlgdpkadkjjaa.A
end
section
set_option linter.unusedVariables false
set_option linter.unusedSimpArgs false
namespace Go.Proofs.Ytodlgdpkadkjjaa.A
open Go.RowKit Go.Shelf Go.Proofs.YtodlgdpkadkjjaaW.PrintWords Go.Proofs.YtodlgdpkadkjjaaW.PrintLast Go.Proofs.YtodlgdpkadkjjaaW.PrintMore Go.Proofs.Ytodlgdpkadkjjaa.PPyramidLevels
/-- A slice of numbers in new memory: nil, or at the begin of a block of its own (the block may go on behind the capacity). -/
def Ow (k : IntKind) (e : TypeId) (w : World) (B : Nat) (v : Value) (xs : List Nat) : Prop :=
 (v = .slice none 0 0 ∧ xs = []) ∨ ∃ g cap cur, v = .slice (some ⟨g, 0, none⟩) xs.length cap ∧ B ≤ g ∧ w.heap[g]? = some (.cells cur e (0, 0)) ∧ xs.length ≤ cap ∧ cap ≤ cur.size ∧ cap ≤ 9223372036854775807 ∧ cur.toList.take xs.length = xs.map (fun x : Nat => Value.int k x)
section
variable {k : IntKind} {e : TypeId} {w w1 : World} {B B' : Nat} {v : Value} {xs : List Nat}
theorem Ow.of_R (h : Kd.R (nat k) e w B (fun _ => True) v xs) : Ow k e w B v xs := by
 obtain ⟨h1, h2⟩ := Kd.own_of_R h
 rcases h2 with ⟨rfl, h0⟩ | ⟨g, cap, cur, rfl, hb, hh, hnc, hcm, hcs, ht⟩
 ·exact .inl ⟨rfl, List.eq_nil_of_length_eq_zero h0⟩
 ·exact .inr ⟨g, cap, cur, rfl, hb, hh, hnc, by omega, by simp only [maxLen] at hcm; omega, by rw [Nat.mul_one] at ht; exact ht⟩
theorem Ow.mono (h : Ow k e w B v xs) (hb : Below w.heap.size w w1) (hB : B' ≤ B) : Ow k e w1 B' v xs := by
 rcases h with h | ⟨g, cap, cur, rfl, h1, h2, r⟩
 ·exact .inl h
 ·exact .inr ⟨g, cap, cur, rfl, by omega, blk_below h2 hb, r⟩
theorem Ow.C (h : Ow k e w B v xs) : ∃ A cap, v = .slice A xs.length cap ∧ xs.length ≤ cap ∧ (nat k).C w A xs.length xs := by
 rcases h with ⟨rfl, rfl⟩ | ⟨g, cap, cur, rfl, h1, h2, h3, h4, h5, h6⟩
 ·exact ⟨none, 0, rfl, by simp, Kd.C_nil _ _⟩
 ·refine ⟨_, cap, rfl, h3, Kd.C_of_reads (d := 0) ⟨rfl, by omega, fun hp => ⟨_, rfl, fun j hj => ?_⟩⟩⟩
  rw [add_plain, blk_cell h2 j]
  have h7 : cur.toList[j]? = (xs.map (fun x : Nat => Value.int k x))[j]? := by rw [← h6, List.getElem?_take, if_pos hj]
  rw [← Array.getElem?_toList, h7, List.getElem?_map, List.getElem?_eq_getElem hj, Option.map_some]
  simp [List.getElem?_eq_getElem hj]
end
theorem block_add (a : Addr) (n : Nat) : (a.add n).block = a.block := by unfold Addr.add; split <;> rfl
theorem cell_of_block {w w1 : World} {a : Addr} (h : w1.heap[a.block]? = w.heap[a.block]?) : w1.cell? a = w.cell? a := by simp [World.cell?, h]
theorem C_but {k : IntKind} {w w1 : World} {A : Option Addr} {n : Nat} {xs : List Nat} (h : (nat k).C w A n xs) (hb : ∀ ad, A = some ad → 0 < n → w1.heap[ad.block]? = w.heap[ad.block]?) : (nat k).C w1 A n xs := by
 refine Kd.C_of_reads (d := 0) ⟨h.1, h.2.1, fun hp => ?_⟩
 obtain ⟨ad, e, _⟩ := C_nat h 0 hp
 refine ⟨ad, e, fun j hj => ?_⟩
 obtain ⟨ad', e', hc⟩ := C_nat h j hj
 rw [e] at e'; injection e' with e'; subst e'
 have hbk : w1.heap[(ad.add j).block]? = w.heap[(ad.add j).block]? := by rw [block_add]; exact hb ad e hp
 rw [cell_of_block hbk]
 exact hc
theorem C_lt {k : IntKind} {w : World} {A : Option Addr} {n : Nat} {xs : List Nat} (h : (nat k).C w A n xs) : ∀ ad, A = some ad → 0 < n → ad.block < w.heap.size := by
 intro ad hA hp
 obtain ⟨ad', e, hc⟩ := C_nat h 0 hp
 rw [hA] at e; injection e with e; subst e
 have := World.block_lt_of_cell? w _ hc
 rwa [block_add] at this
theorem Markeds.new {k : IntKind} {M : Int} {e : TypeId} {w : World} {B : Nat} {hs : List Hd} {ms : List Int} (H : Markeds k M e w B hs ms) : ∀ r, w.heap.size ≤ r → Apart hs r := by
 intro r hr h hh ad had
 obtain ⟨i, hi, rfl⟩ := List.getElem_of_mem hh
 rcases H.2 i hi (by have := H.1; omega) with ⟨h1, _⟩ | ⟨r', cur, h1, hb, h2, _⟩
 ·rw [h1] at had; cases had
 ·rw [h1] at had; injection had with had; subst had
  have := blk_lt h2
  simp only
  omega
theorem Ow.move {e : TypeId} {w w1 : World} {B : Nat} {v : Value} {xs : List Nat} (h : Ow .u32 e w B v xs) (hm : ∀ (k : Nat) (cs : Array Value), w.heap[k]? = some (Obj.cells cs e (0, 0)) → w1.heap[k]? = w.heap[k]?) : Ow .u32 e w1 B v xs := by
 rcases h with h | ⟨g, cap, cur, rfl, h1, h2, r⟩
 ·exact .inl h
 ·exact .inr ⟨g, cap, cur, rfl, h1, (hm g cur h2).trans h2, r⟩
theorem Ow.PL {w : World} {B : Nat} {v : Value} {xs : List Nat} (h : Ow .u32 50 w B v xs) : ∃ A n c, v = .slice A n c ∧ n = xs.length ∧ PL w A n c xs := by
 obtain ⟨A, c, h1, h2, h3⟩ := h.C
 exact ⟨A, _, c, h1, rfl, h3, h2, rfl⟩
/-- what a function tells that tells a plane and an error -/
structure PO where
 x : Int
 y : Int
 s : List Nat
 e : Nat
def Out1 (w : World) (o : PO) (e : Ending) (w' : World) : Prop := ∃ v, e = .returned (.tuple #[.agg #[.int .i64 o.x, .int .i64 o.y, v], .int .i64 (o.e : Int)]) ∧ Ow .u32 50 w' w.heap.size v o.s ∧ Below w.heap.size w w'
def redO (x y : Int) (p : List Nat) : PO := if checkE x y p.length = 0 then ⟨((hf x.toNat : Nat) : Int), ((hf y.toNat : Nat) : Int), redS x.toNat y.toNat p, 0⟩ else ⟨0, 0, [], checkE x y p.length⟩
def expO (x y : Int) (p : List Nat) (u v : Int) : PO := if checkE x y p.length = 0 then (if sizeB u v = true ∧ hf u.toNat = x.toNat ∧ hf v.toNat = y.toNat then ⟨u, v, expS x.toNat y.toNat u.toNat v.toNat p, 0⟩ else ⟨0, 0, [], 141⟩) else ⟨0, 0, [], checkE x y p.length⟩
theorem out_bad {w : World} {E : Nat} {f : FuncId} {args : Array Value} (h : Calls Try.prog f args w fun e w' => e = .returned (.tuple #[.agg #[.int .i64 0, .int .i64 0, .slice none 0 0], .int .i64 (E : Int)]) ∧ Below w.heap.size w w') : Calls Try.prog f args w (Out1 w ⟨0, 0, [], E⟩) :=
 h.mono fun e w' h => ⟨_, h.1, .inl ⟨rfl, rfl⟩, h.2⟩
theorem out_ok {w : World} {X Y : Int} {L : List Nat} {f : FuncId} {args : Array Value} (h : Calls Try.prog f args w fun e w' => ∃ v, e = .returned (.tuple #[.agg #[.int .i64 X, .int .i64 Y, v], .int .i64 0]) ∧ (nat .u32).R 50 w' w.heap.size (fun _ => True) v L ∧ Below w.heap.size w w') : Calls Try.prog f args w (Out1 w ⟨X, Y, L, 0⟩) :=
 h.mono fun e w' ⟨v, h1, h2, h3⟩ => ⟨v, h1, Ow.of_R h2, h3⟩
theorem okP_of {W H : Nat} {p : List Nat} (hx : ∀ i, gt p i < 4294967296) (h1 : 0 < W) (h2 : 0 < H) (h3 : W ≤ 1024) (h4 : H ≤ 1024) (h5 : W * H ≤ 65536) (h6 : p.length = W * H) : (Pl.mk W H p).ok := ⟨h1, h2, h3, h4, h5, h6, hx⟩
section
variable {x y : Int} {A : Option Addr} {n c : Nat} {p : List Nat} {w : World}
theorem Reduce_any (h : PL w A n c p) (hx : ∀ i, gt p i < 4294967296) : Calls Try.prog 16 #[.agg #[.int .i64 x, .int .i64 y, .slice A n c]] w (Out1 w (redO x y p)) := by
 have hl := h.2.2
 have hn : n < 9223372036854775808 := by have := h.1.2.1; omega
 subst hl
 unfold redO
 by_cases hE : checkE x y p.length = 0
 ·rw [if_pos hE]
  obtain ⟨W, H, rfl, rfl, h1, h2, h3, h4, h5, h6⟩ := checkE_zero hE
  rw [Int.toNat_natCast, Int.toNat_natCast]
  exact out_ok (Reduce_ok W H p A _ c w (okP_of hx h1 h2 h3 h4 h5 h6) rfl h.1 h.2.1)
 ·rw [if_neg hE]; exact out_bad (Reduce_bad x y A _ c w hn hE)
theorem rExpand_any (u v : Int) (h : PL w A n c p) (hx : ∀ i, gt p i < 4294967296) : Calls Try.prog 15 #[.agg #[.int .i64 x, .int .i64 y, .slice A n c], .int .i64 u, .int .i64 v] w (Out1 w (expO x y p u v)) := by
 have hl := h.2.2
 have hn : n < 9223372036854775808 := by have := h.1.2.1; omega
 subst hl
 unfold expO
 by_cases hE : checkE x y p.length = 0
 ·rw [if_pos hE]
  obtain ⟨W, H, rfl, rfl, h1, h2, h3, h4, h5, h6⟩ := checkE_zero hE
  rw [Int.toNat_natCast, Int.toNat_natCast]
  have hp := okP_of hx h1 h2 h3 h4 h5 h6
  by_cases hS : sizeB u v = true
  ·obtain ⟨wn, hn', rfl, rfl, hs⟩ := sizeB_of hS
   rw [Int.toNat_natCast, Int.toNat_natCast]
   by_cases hW : hf wn = W
   ·by_cases hH : hf hn' = H
    ·rw [if_pos ⟨hS, hW, hH⟩]; exact out_ok (rExpand_ok W H p A _ c wn hn' w hp h hs hW hH)
    ·rw [if_neg (fun h => hH h.2.2)]; exact out_bad (rExpand_high W H p A _ c wn hn' w hp rfl hs hW hH)
   ·rw [if_neg (fun h => hW h.2.1)]; exact out_bad (rExpand_wide W H p A _ c wn hn' w hp rfl hs hW)
  ·rw [if_neg (fun h => hS h.1)]; exact out_bad (rExpand_size W H p A _ c u v w hp rfl (by simpa using hS))
 ·rw [if_neg hE]; exact out_bad (rExpand_bad x y A _ c u v w hn hE)
end
theorem redO_len (x y : Int) (p : List Nat) : (redO x y p).s.length ≤ 1048576 := by
 unfold redO
 split
 ·rename_i hE
  obtain ⟨W, H, rfl, rfl, h1, h2, h3, h4, h5, h6⟩ := checkE_zero hE
  rw [Int.toNat_natCast, Int.toNat_natCast]
  show (redS W H p).length ≤ 1048576
  rw [redS_length]
  exact Nat.le_trans (Nat.mul_le_mul (hf_le h3 (by decide)) (hf_le h4 (by decide))) (by decide)
 ·exact Nat.zero_le _
/-- the same plane -/
theorem sameP (x y : Int) {A A2 : Option Addr} {n c n2 c2 : Nat} {xs : List Nat} {w : World} (h : PL w A n c xs) (h2 : PL w A2 n2 c2 xs) (hl : xs.length < 4611686018427387904) :
    Calls Try.prog 18 #[.agg #[.int .i64 x, .int .i64 y, .slice A n c], .agg #[.int .i64 x, .int .i64 y, .slice A2 n2 c2]] w fun e w' => e = .returned (.bool true) ∧ Below w.heap.size w w' := by
 obtain ⟨h1, h3, rfl⟩ := h
 obtain ⟨h4, h5, rfl⟩ := h2
 have h := halidehelp_Plane.calls (xs.length + 1) x y A c (ints xs) x y A2 c2 (ints xs) true w (by rw [ints_length]; exact C_ints h1) (by rw [ints_length]; exact h3) (by rw [ints_length]; exact C_ints h4) (by rw [ints_length]; exact h5) (by
  rw [plane_f _ (by rw [ints_length]; omega) (by rw [ints_length]; exact hl)]
  simp)
 rw [ints_length] at h
 exact h
theorem bookSamples (g B Bn : Nat) (m : Int) (hs : List Hd) (ms : List Int) (w : World) (A : Option Addr) (n c : Nat) (xs : List Nat) (hK : BkSamples w g B hs ms) (hgB : g < B) (hBs : B ≤ w.heap.size) (hv : Ow .u32 50 w Bn (.slice A n c) xs) (hBn : B ≤ Bn) (hA : ∀ ad, A = some ad → Apart hs ad.block) (hlen : hs.length ≤ 1000000) :
    Calls Try.prog 56 #[.pointer (some ⟨g, 0, none⟩), .slice A n c, .int .i64 m] w fun e w' => e = .returned (.tuple #[]) ∧ (∃ k, BkSamples w' g B (hs ++ [(A, k, k)]) (ms ++ [m])) ∧ But B g w w' ∧ KeepB A w w' := by
 rcases hv with ⟨e, _⟩ | ⟨r, c', cur, e, h1, h2, h3, h4, h5, h6⟩
 ·injection e with e1 e2 e3
  subst e1 e2 e3
  exact (nilSamples g B m hs ms w hK hgB hBs hlen).mono fun e w' ⟨a, b, c, d⟩ => ⟨a, ⟨_, b⟩, c, d⟩
 ·injection e with e1 e2 e3
  subst e1 e2 e3
  exact (markSamples g B r xs.length c cur m hs ms w hK hgB hBs h2 (by omega) h3 h4 h5 (hA _ rfl) hlen).mono fun e w' ⟨a, b, c, d⟩ => ⟨a, ⟨_, b⟩, c, d⟩
theorem BkSamples.move {w w1 : World} {g B : Nat} {hs : List Hd} {ms : List Int} (h : BkSamples w g B hs ms) (hm : ∀ (k : Nat) (cs : Array Value) (t : TypeId), w.heap[k]? = some (Obj.cells cs t (0, 0)) → t ≠ 25 → w1.heap[k]? = w.heap[k]?) : BkSamples w1 g B hs ms := by
 obtain ⟨v, vm, h1, h2, h3, h4⟩ := h
 refine ⟨v, vm, (hm g _ _ h1 (by decide)).trans h1, ?_, ?_, h4.move fun r cur hr => hm r cur _ hr (by decide)⟩
 ·exact Kd.R_mono (Kd.R_move (Kd.R_bound h2) (fun k hk => by
   obtain ⟨_, _, _, q, hq, cells, hc⟩ := hk
   have e : q = 23 := by simpa [hdr, Kd.scalar] using hq
   exact hm k cells q hc (by rw [e]; decide))) (fun _ hk => hk.1)
 ·exact Kd.R_mono (Kd.R_move (Kd.R_bound h3) (fun k hk => by
   obtain ⟨_, _, _, q, hq, cells, hc⟩ := hk
   have e : q = 3 := by simpa [intK, Kd.scalar] using hq
   exact hm k cells q hc (by rw [e]; decide))) (fun _ hk => hk.1)
theorem RmS.moveR {w w1 : World} {g B : Nat} {hs ws : List Hd} (h : RmS w g B hs ws) (hm : ∀ (k : Nat) (cs : Array Value) (t : TypeId), w.heap[k]? = some (Obj.cells cs t (0, 0)) → t ≠ 25 → w1.heap[k]? = w.heap[k]?) : RmS w1 g B hs ws := RmS.moveT 25 (by decide) (by decide) (by decide) h hm
theorem BkSamples.new {w : World} {g B : Nat} (h : w.heap[g]? = some (.cells #[.slice none 0 0, .slice none 0 0, .slice none 0 0, .slice none 0 0, .slice none 0 0, .slice none 0 0, .slice none 0 0, .slice none 0 0] 34 (0, 0))) : BkSamples w g B [] [] := ⟨_, _, h, Kd.R_nil _ _ _ _ _, Kd.R_nil _ _ _ _ _, Markeds.nil _ _ _ _ _⟩
theorem BkSamples.apart {w : World} {g B : Nat} {hs : List Hd} {ms : List Int} (h : BkSamples w g B hs ms) : ∀ r, w.heap.size ≤ r → Apart hs r := by obtain ⟨_, _, _, _, _, h⟩ := h; exact Markeds.new h
theorem BkSamples.st {w w1 : World} {g B g15 : Nat} {hs : List Hd} {ms : List Int} {cs : Array Value} (h : BkSamples w g B hs ms) (hd : w.heap[g15]? = some (.cells cs 25 (0, 0))) (hst : ∀ k, k ≠ g15 → w1.heap[k]? = w.heap[k]?) : BkSamples w1 g B hs ms := h.move fun k cs' t hk ht => hst k (fun e => by subst e; rw [hd] at hk; injection hk with hk; injection hk with _ e; exact ht e.symm)
theorem Ow.st {w w1 : World} {B g15 : Nat} {v : Value} {xs : List Nat} {cs : Array Value} (h : Ow .u32 50 w B v xs) (hd : w.heap[g15]? = some (.cells cs 25 (0, 0))) (hst : ∀ k, k ≠ g15 → w1.heap[k]? = w.heap[k]?) : Ow .u32 50 w1 B v xs := h.move fun k cs' hk => hst k (fun e => by subst e; rw [hd] at hk; injection hk with hk; injection hk with _ e; exact absurd e (by decide))
theorem But.step {g : Nat} {W0 w w' : World} (T : But W0.heap.size g W0 w) (hb : Below w.heap.size w w') : But W0.heap.size g W0 w' := T.trans (.of_below (hb.mono T.size))
theorem But.at_ {B g k : Nat} {a b : World} {o : Obj} (h : But B g a b) (hk : a.heap[k]? = some o) (hlt : k < B) (hne : k ≠ g) : b.heap[k]? = some o := (h.block k hlt hne).trans hk
theorem But.PL {g n c : Nat} {W0 w : World} {A : Option Addr} {xs : List Nat} (h : But W0.heap.size g W0 w) (hL : PL W0 A n c xs) (hne : ∀ ad, A = some ad → 0 < n → ad.block ≠ g) : PL w A n c xs :=
 ⟨C_but hL.1 fun ad hA hp => h.block _ (C_lt hL.1 ad hA hp) (hne ad hA hp), hL.2.1, hL.2.2⟩
theorem below_set1 (w : World) {B : Nat} (g i : Nat) (u : Value) (h : B ≤ g) : Below B w (w.setCell ⟨g, i, none⟩ u) := (Below.refl B w).setCell (p := ⟨g, i, none⟩) h u
def Keeps (w w' : World) : Prop := ∀ (k : Nat) (cs : Array Value) (t : TypeId), w.heap[k]? = some (Obj.cells cs t (0, 0)) → t = 50 ∨ t = 25 → w'.heap[k]? = w.heap[k]?
set_option maxHeartbeats 4000000 in
set_option maxRecDepth 100000 in
theorem roomPlane (g B : Nat) (x y : Int) (A : Option Addr) (n c : Nat) (p : List Nat) (hs ws : List Hd) (w : World) (hK : RmS w g B hs ws) (hgB : g < B) (hBs : B ≤ w.heap.size) (hC : PL w A n c p) (hb : n * 4 ≤ 140737488351232) (hlen : hs.length ≤ 1000000) :
    Calls Try.prog 13 #[.pointer (some ⟨g, 0, none⟩), .agg #[.int .i64 x, .int .i64 y, .slice A n c]] w fun e w' => ∃ r c3 hs' ws', e = .returned (.agg #[.int .i64 x, .int .i64 y, .slice (some ⟨r, 0, none⟩) n c3]) ∧ PL w' (some ⟨r, 0, none⟩) n c3 p ∧ w.heap.size ≤ r ∧ RmS w' g B hs' ws' ∧ hs'.length = hs.length + 1 ∧ But B g w w' ∧ Keeps w w' ∧ (∃ cells, w'.heap[r]? = some (Obj.cells cells 50 (0, 0))) := by
 have hu25 := Try.underlying25
 obtain ⟨hl0, hl1, rfl⟩ := hC
 have HCA : Aside0 (PL w A p.length c p) := ⟨⟨hl0, hl1, rfl⟩⟩
 have HK := Aside0.mk hK
 clear hl0 hl1 hK
 obtain ⟨n, hn⟩ : ∃ n, p.length = n := ⟨_, rfl⟩
 have HN := Aside0.mk hn
 have HC : Aside0 (PL w A n c p) := ⟨by rw [← hn]; exact HCA.out⟩
 clear HCA
 have hb : p.length * 4 ≤ 140737488351232 := hb
 have HLD := Aside0.mk (fun (W : World) (h1 : RmS W g B hs ws) (h2 : B ≤ W.heap.size) (h3 : PL W A n c p) => (by have h := lend g B A c p hs ws W h1 h2 (by rw [hn]; exact h3.1) (by rw [hn]; exact h3.2.1) hb hlen; rw [hn] at h; exact h : Calls Try.prog 43 #[.pointer (some ⟨g, 0, none⟩), .slice A n c] W fun e w' => ∃ r c cells hs' ws', e = .returned (.slice (some ⟨r, 0, none⟩) n c) ∧ n ≤ c ∧ W.heap.size ≤ r ∧ (nat .u32).C w' (some ⟨r, 0, none⟩) n p ∧ w'.heap[r]? = some (.cells cells 50 (0, 0)) ∧ RmS w' g B hs' ws' ∧ hs'.length = hs.length + 1 ∧ But B g W w' ∧ Keeps W w'))
 rw [hn]
 clear hn hb
 go_enter Try.func13, Try.ntmps13
 go_wp2_with (first | ((with_reducible refine gate_dst (N := 3) rfl ?_); refine box_event ?hg (N := 3) ?hd (cs := #[.int .i64 x, .int .i64 y, .slice A n c]) (t := 25) ?hr ?_; (case hd => rfl); (case hg => rfl); (case hr => first | (go_simp; done) | (go_simp; rfl)); intro gP hg_ w1 hm_ hb_; have P1 := Aside0.mk (hm_); have B1 := Aside0.mk (hb_); have GP := Aside0.mk (show w.heap.size ≤ gP by rw [hg_]; exact Nat.le_refl _); clear hm_ hb_ hg_) | ((with_reducible refine gate_dst (N := 4) rfl ?_); refine box_event ?hg (N := 4) ?hd (cs := #[.int .i64 0, .int .i64 0, .slice none 0 0]) (t := 25) ?hr ?_; (case hd => rfl); (case hg => rfl); (case hr => first | (go_simp; done) | (go_simp; rfl)); intro gR hg_ w2 hm_ hb_; have P2 := Aside0.mk (blk_below P1.out hb_); have R2 := Aside0.mk (hm_); have B2 := Aside0.mk (below_step B1.out hb_); have GR := Aside0.mk (show w.heap.size ≤ gR by rw [hg_]; exact below_size B1.out); have NPR := Aside0.mk (show gP ≠ gR by rw [hg_]; have := blk_lt P1.out; omega); have p0 := (blk_cell P2.out 0).trans rfl; have p1 := (blk_cell P2.out 1).trans rfl; have p2 := (blk_cell P2.out 2).trans rfl; have fp0 := blk_frozen P2.out 0; have fp1 := blk_frozen P2.out 1; have fp2 := blk_frozen P2.out 2; clear hm_ hb_ hg_) | (go_at_call 43; refine (HLD.out _ (HK.out.below B2.out) (Nat.le_trans hBs B2.out.size) (HC.out.below B2.out)).mono ?_; rintro e w3 ⟨r, c3, cells3, hs3, ws3, rfl, hc3, hr3, hC3, hb3, hK3, hl3, hT3, hQ3⟩; have C3 := Aside0.mk (hC3); have K3 := Aside0.mk (hK3); have T3 := Aside0.mk (hT3); have BK3 := Aside0.mk (hb3); have HC3 := Aside0.mk (hc3); have HL3 := Aside0.mk (hl3); have HR3 := Aside0.mk (hr3); have P3 := Aside0.mk ((hQ3 gP _ _ P2.out (.inr rfl)).trans P2.out); have R3 := Aside0.mk ((hQ3 gR _ _ R2.out (.inr rfl)).trans R2.out); have Q3 := Aside0.mk (hQ3); clear hC3 hK3 hT3 hb3 hQ3 hc3 hl3 hr3 p0 p1 p2 fp0 fp1 fp2; have p2 := (blk_cell P3.out 2).trans rfl; have fp2 := blk_frozen P3.out 2; have P4 := Aside0.mk (show ∀ u, (w3.setCell ⟨gP, 2, none⟩ u).heap[gP]? = some (.cells #[.int .i64 x, .int .i64 y, u] 25 (0, 0)) from fun u => (blk_set P3.out 2 u).trans rfl)) | ((with_reducible refine gate_dst (N := 10) rfl ?_); refine loadP_event rfl rfl gP _ _ _ rfl (P4.out _) ?_) | ((with_reducible refine gate_store (p := 4) rfl ?_); refine storeP_event rfl rfl rfl gR x y (some ⟨r, 0, none⟩) n c3 _ _ _ rfl rfl ((Below.heap_setCell w3 ⟨gP, 2, none⟩ _ gR (fun h => NPR.out h.symm)).trans R3.out) ?_; intro w5 hm_ hst_ hbl_; have R5 := Aside0.mk (hm_); have ST5 := Aside0.mk (show ∀ k, k ≠ gP → k ≠ gR → w5.heap[k]? = w3.heap[k]? from fun k h1 h2 => (hst_ k h2).trans (Below.heap_setCell w3 ⟨gP, 2, none⟩ _ k h1)); have SZ5 := Aside0.mk (hbl_ 0 (Nat.zero_le _)); have BB5 := Aside0.mk (show Below w.heap.size w3 w5 from (below_set1 w3 gP 2 _ GP.out).trans (hbl_ _ GR.out)); clear hm_ hst_ hbl_))
 refine bodyPost_ret (results_cell_row rfl _ _ gR 25 #[.int .i64 x, .int .i64 y, .slice (some ⟨r, 0, none⟩) n c3] (0, 0) _ rfl R5.out Try.underlying25 rfl (by kernel_rfl)) rfl ?_
 have ne : ∀ (k : Nat) (cs : Array Value) (t : TypeId), w3.heap[k]? = some (Obj.cells cs t (0, 0)) → t ≠ 25 → w5.heap[k]? = w3.heap[k]? := fun k cs t hk ht => ST5.out k (fun e => by subst e; rw [P3.out] at hk; injection hk with hk; injection hk with _ e; exact ht e.symm) (fun e => by subst e; rw [R3.out] at hk; injection hk with hk; injection hk with _ e; exact ht e.symm)
 refine ⟨r, c3, hs3, ws3, rfl, ⟨C_at C3.out (ne r cells3 50 BK3.out (by decide)), HC3.out, HN.out⟩, Nat.le_trans B2.out.size HR3.out, K3.out.moveR ne, HL3.out, ((But.of_below (B2.out.mono hBs)).trans T3.out).trans (.of_below (BB5.out.mono hBs)), ?_, ⟨cells3, (ne r cells3 50 BK3.out (by decide)).trans BK3.out⟩⟩
 intro k cs t hk ht
 have h1 := B2.out.block k (blk_lt hk)
 have h2 := Q3.out k cs t (h1.trans hk) ht
 exact (BB5.out.block k (blk_lt hk)).trans (h2.trans h1)
theorem bookPlane (g B Bn : Nat) (x y m : Int) (A : Option Addr) (n c : Nat) (hs : List Hd) (ms : List Int) (w : World) (xs : List Nat) (hK : BkSamples w g B hs ms) (hgB : g < B) (hBs : B ≤ w.heap.size) (hv : Ow .u32 50 w Bn (.slice A n c) xs) (hBn : B ≤ Bn) (hA : ∀ ad, A = some ad → Apart hs ad.block) (hlen : hs.length ≤ 1000000) :
    Calls Try.prog 19 #[.pointer (some ⟨g, 0, none⟩), .agg #[.int .i64 x, .int .i64 y, .slice A n c], .int .i64 m] w fun e w' => e = .returned (.tuple #[]) ∧ (∃ k, BkSamples w' g B (hs ++ [(A, k, k)]) (ms ++ [m])) ∧ But B g w w' ∧ KeepB A w w' := by
 have hu25 := Try.underlying25
 have HK := Aside0.mk hK
 have HV := Aside0.mk hv
 have HA := Aside0.mk hA
 clear hK hv hA
 go_enter Try.func19, Try.ntmps19
 go_wp2_with (first | ((with_reducible refine gate_dst (N := 4) rfl ?_); refine box_event ?hg (N := 4) ?hd (cs := #[.int .i64 x, .int .i64 y, .slice A n c]) (t := 25) ?hr ?_; (case hd => rfl); (case hg => rfl); (case hr => first | (go_simp; done) | (go_simp; rfl)); intro gP hg_ w1 hm_ hb_; have P1 := Aside0.mk (hm_); have B1 := Aside0.mk (hb_); have p0 := (blk_cell P1.out 0).trans rfl; have p1 := (blk_cell P1.out 1).trans rfl; have p2 := (blk_cell P1.out 2).trans rfl; clear hm_ hb_ hg_) | (go_at_call 56; refine (bookSamples g B Bn m hs ms _ A n c xs (HK.out.below B1.out) hgB (Nat.le_trans hBs B1.out.size) (Ow.mono HV.out B1.out (Nat.le_refl _)) hBn HA.out hlen).mono ?_; rintro e w3 ⟨rfl, hB3, hT3, hZ3⟩; have HB3 := Aside0.mk (hB3); have T3 := Aside0.mk (hT3); have Z3 := Aside0.mk (hZ3); clear hB3 hT3 hZ3))
 go_end0
 exact ⟨rfl, HB3.out, (But.of_below (B1.out.mono hBs)).trans T3.out, (KeepB.below B1.out).trans Z3.out⟩
end Go.Proofs.Ytodlgdpkadkjjaa.A
end
