import Derived.Test.YtkicfaboibfbpaaX2
import Derived.ChangeSlices
import Derived.Deep.Slices
import Derived.Lib.SliceRun
import Derived.Lib.SmallJoins
import Derived.SizedLaws
import Derived.Test.YtkicfaboibfbpaaRows
section
set_option linter.unusedVariables false
set_option linter.unusedSimpArgs false
namespace Go.Proofs.Ytkicfaboibfbpaa.A
open Go.RowKit Go.Proofs.YtkicfaboibfbpaaW.PrintWords Go.Proofs.YtkicfaboibfbpaaW.PrintLast Go.Proofs.YtkicfaboibfbpaaW.PrintMore Go.Proofs.Ytkicfaboibfbpaa.PCurveAts
/-- curves all of own memory -/
def Cvn (w : World) (b : Nat) (gs : List Nat) (ls : List (List (Nat × Nat))) : Prop := gs.length = ls.length ∧ ∀ i, i < gs.length → ∃ A c, NewC w b (gs.getD i 0) A c (ls.getD i [])
theorem Cvn.cvs {w : World} {b : Nat} {gs : List Nat} {ls : List (List (Nat × Nat))} (h : Cvn w b gs ls) : Cvs w gs ls := ⟨h.1, fun i hi => by obtain ⟨A, c, h1⟩ := h.2 i hi; exact ⟨A, c, h1.2.1⟩⟩
theorem Cvn.below {w w1 : World} {b : Nat} {gs : List Nat} {ls : List (List (Nat × Nat))} (h : Cvn w b gs ls) (hb : Below w.heap.size w w1) : Cvn w1 b gs ls := ⟨h.1, fun i hi => by obtain ⟨A, c, h1⟩ := h.2 i hi; exact ⟨A, c, h1.below hb⟩⟩
theorem Cvn.nil (w : World) (b : Nat) : Cvn w b [] [] := ⟨rfl, fun i hi => absurd hi (by simp)⟩
theorem Cvn.snoc {w : World} {b g c : Nat} {A : Option Addr} {gs : List Nat} {ls : List (List (Nat × Nat))} {l : List (Nat × Nat)} (h : Cvn w b gs ls) (h1 : NewC w b g A c l) : Cvn w b (gs ++ [g]) (ls ++ [l]) := by
 refine ⟨by simp [h.1], fun i hi => ?_⟩
 rw [List.length_append] at hi
 rcases Nat.lt_or_ge i gs.length with h2 | h2
 ·rw [List.getD_eq_getElem?_getD, List.getElem?_append_left h2, ← List.getD_eq_getElem?_getD, List.getD_eq_getElem?_getD (l := ls ++ [l]), List.getElem?_append_left (by rw [← h.1]; exact h2), ← List.getD_eq_getElem?_getD]
  exact h.2 i h2
 ·have e : i = gs.length := by simp at hi; omega
  subst e
  rw [List.getD_eq_getElem?_getD, List.getElem?_append_right (Nat.le_refl _), List.getD_eq_getElem?_getD (l := ls ++ [l]), List.getElem?_append_right (by rw [h.1]; exact Nat.le_refl _), Nat.sub_self, h.1, Nat.sub_self]
  exact ⟨A, c, h1⟩
/-- what changes a row of pointers alone leaves the curves -/
theorem NewC.but {w w1 : World} {b g cb r : Nat} {B : Option Addr} {l : List (Nat × Nat)} {cells : Array Value} (h : NewC w b g B cb l) (hr : w.heap[r]? = some (.cells cells 26 (0, 0))) (hm : ∀ k, k < w.heap.size → k ≠ r → w1.heap[k]? = w.heap[k]?) : NewC w1 b g B cb l := by
 obtain ⟨h1, h2, h3⟩ := h
 have hgr : g ≠ r := fun e => by
  have this := h2.1
  rw [e, hr] at this
  injection this with this
  injection this with _ this
  cases this
 have hR : KR w1 b (.slice B l.length cb) l := by
  have h4 := Kd.R_types (Kd.R_bound h3) hr (by decide)
  exact Kd.R_mono (Kd.R_move h4 (fun k hk => hm k hk.1.2.2.1 hk.2)) (fun _ _ => trivial)
 exact ⟨h1, ⟨(hm g (blk_lt h2.1) hgr).trans h2.1, h2.2.1, hR.kn.2.2⟩, hR⟩
theorem Cvn.but {w w1 : World} {b r : Nat} {gs : List Nat} {ls : List (List (Nat × Nat))} {cells : Array Value} (h : Cvn w b gs ls) (hr : w.heap[r]? = some (.cells cells 26 (0, 0))) (hm : ∀ k, k < w.heap.size → k ≠ r → w1.heap[k]? = w.heap[k]?) : Cvn w1 b gs ls :=
 ⟨h.1, fun i hi => by obtain ⟨A, c, h1⟩ := h.2 i hi; exact ⟨A, c, h1.but hr hm⟩⟩
/-- an own row of pointers grows -/
theorem Cvn.grown {w w1 : World} {b b2 : Nat} {v : Value} {gs hs : List Nat} {ls : List (List (Nat × Nat))} (h : Cvn w b gs ls) (hR : pk.R 26 w b2 (fun _ => True) v hs) (hg : w.grownBy w1 v.ownBlock) : Cvn w1 b gs ls := by
 cases hv : v.ownBlock with
 | none => exact h.below ⟨hg.os, hg.tape, hg.output, hg.size, fun i hi => hg.block i hi (by rw [hv]; simp)⟩
 | some r =>
  obtain ⟨cells, hc⟩ := Kd.R_typed hR r hv
  exact h.but hc (fun k hk hne => hg.block k hk (by rw [hv]; exact fun e => hne (by injection e)))
/-- an own row of pointers -/
def PR (w : World) (b : Nat) (v : Value) (gs : List Nat) : Prop := pk.R 26 w b (fun _ => True) v gs
/-- a chain of own memory -/
def ChN (w : World) (b gc : Nat) (B : Option Addr) (cb : Nat) (gs : List Nat) : Prop := b ≤ gc ∧ w.heap[gc]? = some (.cells #[.slice B gs.length cb] 83 (0, 0)) ∧ PR w b (.slice B gs.length cb) gs
theorem ChN.chb {w : World} {b gc cb : Nat} {B : Option Addr} {gs : List Nat} {ls : List (List (Nat × Nat))} (h : ChN w b gc B cb gs) (h2 : Cvs w gs ls) : ChB w gc gs ls := by
 obtain ⟨_, hl, hC⟩ := Kd.R_reads' h.2.2
 exact ⟨⟨B, cb, h.2.1, hl, hC⟩, h2⟩
set_option maxHeartbeats 2000000 in
theorem Clone54_own (A : Option Addr) (c : Nat) (gs : List Nat) (h0 : 0 < gs.length) (h1 : gs.length < 1000) (hc : gs.length ≤ c) (w : World) (hK : pk.C w A gs.length gs) :
    Calls Try.prog 54 #[.slice A gs.length c] w fun e w' => ∃ B cb, e = .returned (.slice B gs.length cb) ∧ Below w.heap.size w w' ∧ PR w' w.heap.size (.slice B gs.length cb) gs := by
 obtain ⟨ad, rfl, _⟩ := pk_at hK 0 h0
 obtain ⟨n, hn⟩ : ∃ n, gs.length = n := ⟨_, rfl⟩
 rw [hn] at hK ⊢
 have hq2 : ∀ w : World, (binOp .eql 61 (.slice (some ad) n c) (.slice none 0 0)).run Try.prog w = .ok (.bool false) w := fun w => Lib.run_eql_slice_nil w _ _ _ _ _ _ _ Try.underlying61
 have HK : Aside0 (pk.C w (some ad) n gs) := ⟨hK⟩
 have H1 : Aside0 (n < 1000) := ⟨by omega⟩
 have HN := Aside0.mk hn
 clear hK h0 h1 hc hn
 go_enter Try.func54, Try.ntmps54
 go_wp2_with (first
  | ((with_reducible refine gate_dst (N := 4) rfl ?_); refine Kd.event_run rfl (v := .bool false) (w1 := w) ?hr ?_; (case hr => first | (go_simp; done) | (go_simp; rfl)))
  | ((with_reducible refine gate_dst (N := 5) rfl ?_); refine Kd.event_run rfl (v := .slice (some ⟨w.heap.size, 0, none⟩) 0 0) (w1 := w.alloc (.cells #[] 26 (0, 0))) ?hr ?_; (case hr => first | (go_simp; done) | (go_simp; rfl)))
  | ((with_reducible refine gate_dst (N := 7) rfl ?_); refine Kd.R_append_row (fun g : Nat => Value.pointer (some ⟨g, 0, none⟩)) (0 : Nat) (h1 := fun _ => rfl) (W := w.alloc (.cells #[] 26 (0, 0))) (w0 := w) w.heap.size rfl (.tmp 5) (.tmp 6) 61 26 (.pointer none) 8 rfl Try.underlying61 info26 rfl (by omega) (.slice (some ⟨w.heap.size, 0, none⟩) 0 0) [] gs (some ad) n c (fun _ => True) rfl rfl (fun _ _ => trivial) (pk_made w) (Kd.C_alloc HK.out _) (below_alloc (Below.refl _ _) _) (below_alloc (Below.refl _ _) _).size (by have := H1.out; simp only [List.length_nil]; omega) ?_; intro v7 w7 hR hB hg hat; rw [List.nil_append] at hR; have R7 : Aside0 (PR w7 w.heap.size v7 gs) := ⟨hR⟩; have B7 := Aside0.mk hB; clear hR hB hg hat))
 go_ret
 have hR := R7.out
 obtain ⟨B, cb, rfl, h5, h6⟩ := Kd.R_reads hR
 have hn := HN.out
 rw [hn] at hR ⊢
 exact ⟨B, cb, rfl, B7.out, hR⟩
set_option maxHeartbeats 2000000 in
theorem Join_own (A : Option Addr) (c : Nat) (gs : List Nat) (h : 1 ≤ gs.length ∧ gs.length ≤ 8) (hc : gs.length ≤ c) (w : World) (hK : pk.C w A gs.length gs) :
    Calls Try.prog 32 #[.slice A gs.length c] w fun e w' => ∃ gc B cb, e = .returned (.tuple #[.pointer (some ⟨gc, 0, none⟩), .int .i64 0]) ∧ ChN w' w.heap.size gc B cb gs ∧ Below w.heap.size w w' := by
 have HC : Aside0 (∀ W, Below w.heap.size w W → Calls Try.prog 54 #[.slice A gs.length c] W fun e w' => ∃ B cb, e = .returned (.slice B gs.length cb) ∧ Below W.heap.size W w' ∧ PR w' W.heap.size (.slice B gs.length cb) gs) := ⟨fun W hb => Clone54_own A c gs (by omega) (by omega) hc W (Kd.C_below hK hb)⟩
 obtain ⟨n, hn⟩ : ∃ n, gs.length = n := ⟨_, rfl⟩
 rw [hn] at HC h ⊢
 have d1 : ((n : Int) == 0) = false := by rw [beq_eq_false_iff_ne]; omega
 have d1' : decide ((n : Int) = 0) = false := decide_eq_false (by omega)
 have d2 : decide ((n : Int) > 8) = false := decide_eq_false (by omega)
 have d3 : (8 < n) = False := eq_false (by omega)
 have d4 : (n = 0) = False := eq_false (by omega)
 have HN := Aside0.mk hn
 clear h hc hK hn
 go_enter Try.func32, Try.ntmps32
 go_wp2_with (first | (go_at_call 54; (with_reducible refine (HC.out _ (Below.refl _ _)).mono ?_); rintro e w5 ⟨B, cb, rfl, hb, hR⟩; have B5 := Aside0.mk hb; have R5 : Aside0 (PR w5 w.heap.size (.slice B n cb) gs) := ⟨hR⟩; clear hb hR) | ((with_reducible refine gate_dst (N := 15) rfl ?_); refine box_event ?hg (N := 15) ?hd (cs := #[.slice B n cb]) (t := 83) ?hr ?_; (case hd => rfl); (case hg => rfl); (case hr => first | (go_simp; done) | (go_simp; rfl)); intro gc hg_ w7 hm_ hb_; have B7 := Aside0.mk (below_step B5.out hb_); have M7 := Aside0.mk (hm_); have GW := Aside0.mk (show w.heap.size ≤ gc by rw [hg_]; exact B5.out.size); have R7 : Aside0 (PR w7 w.heap.size (.slice B n cb) gs) := ⟨Kd.R_below R5.out hb_⟩; clear hm_ hb_ hg_))
 go_ret2
 have hn := HN.out
 exact ⟨gc, B, cb, rfl, ⟨GW.out, by rw [hn]; exact M7.out, by rw [hn]; exact R7.out⟩, B7.out⟩
/-- all of them may be -/
def vall (ls : List (List (Nat × Nat))) : Bool := ls.all fun l => decide (chk l = 0)
def mayB (ls : List (List (Nat × Nat))) : Bool := vall ls && (decide (1 ≤ ls.length) && decide (ls.length ≤ 8))
theorem vall_of {ls : List (List (Nat × Nat))} (h : ∀ i, i < ls.length → chk (ls.getD i []) = 0) : vall ls = true := by
 unfold vall
 rw [List.all_eq_true]
 intro l hl
 obtain ⟨i, hi, rfl⟩ := List.mem_iff_getElem.mp hl
 have := h i hi
 rw [List.getD_eq_getElem?_getD, List.getElem?_eq_getElem hi] at this
 exact decide_eq_true this
theorem vall_not {ls : List (List (Nat × Nat))} {i : Nat} (hi : i < ls.length) (h : chk (ls.getD i []) ≠ 0) : vall ls = false := by
 cases h2 : vall ls
 ·rfl
 ·unfold vall at h2
  rw [List.all_eq_true] at h2
  exact absurd (of_decide_eq_true (h2 _ (getD_mem hi []))) h
theorem vall_val {ls : List (List (Nat × Nat))} (hk : ∀ l ∈ ls, kok l) (h : vall ls = true) : ∀ l ∈ ls, Val l := by
 unfold vall at h
 rw [List.all_eq_true] at h
 exact fun l hl => chk_val (hk l hl) (of_decide_eq_true (h l hl))
theorem KsA.most {w : World} {A : Option Addr} {ls : List (List (Nat × Nat))} (h : KsA w A ls) : ls.length ≤ 9223372036854775807 := by
 obtain ⟨hs, h1, h2, _⟩ := h
 rw [← h1]; exact h2.2.1
set_option maxHeartbeats 4000000 in
theorem may_calls (A : Option Addr) (c : Nat) (ls : List (List (Nat × Nat))) (hk : ∀ l ∈ ls, kok l) (w : World) (hK : KsA w A ls) :
    Calls Try.prog 19 #[.slice A ls.length c] w fun e w' => e = .returned (.bool (mayB ls)) ∧ Below w.heap.size w w' := by
 have hm := hK.most
 obtain ⟨n, hn⟩ : ∃ n, ls.length = n := ⟨_, rfl⟩
 have HM : Aside0 (mayB ls = (vall ls && (decide (1 ≤ n) && decide (n ≤ 8)))) := ⟨by unfold mayB; rw [hn]⟩
 rw [hn] at hm ⊢
 have HK : Aside0 (KsA w A ls) := ⟨hK⟩
 have HKO := Aside0.mk hk
 have HN := Aside0.mk hn
 have H8 := Aside0.mk hm
 clear hK hk hn hm
 go_enter Try.func19, Try.ntmps19
 go_wp2
 go_loopg [3] n (fun kx s3 wr => ∃ i : Nat, s3 = .int .i64 (i : Int) ∧ i ≤ n ∧ n - i ≤ kx ∧ Aside0 (Below w.heap.size w wr) ∧ Aside0 (∀ j, j < i → chk (ls.getD j []) = 0))
 case atStart => exact ⟨0, rfl, Nat.zero_le _, by omega, ⟨Below.refl _ _⟩, ⟨fun j hj => absurd hj (by omega)⟩⟩
 case round =>
  obtain ⟨i, rfl, i1, i2, HB, I⟩ := hrel
  have h8 := H8.out
  by_cases hin : i < n
  ·have hil : i < ls.length := by have := HN.out; omega
   have e1i : decide ((0 : Int) ≤ (i : Int)) = true := decide_eq_true (by omega)
   have e2i : decide ((i : Int) < (n : Int)) = true := decide_eq_true (by omega)
   have e5i : ((0 : Int) ≤ (i : Int)) = True := eq_true (by omega)
   have e6i : ((i : Int) < (n : Int)) = True := eq_true (by omega)
   have e7i : (i < n) = True := eq_true (by omega)
   have wi : IntKind.i64.wrap ((i : Int) + 1) = ((i + 1 : Nat) : Int) := by rw [show IntKind.i64.wrap ((i : Int) + 1) = wrap64 ((i : Int) + 1) from i64_w _, w64 (by omega) (by omega)]; omega
   obtain ⟨ad, Ai, ci, rfl, hp, hci, hKi⟩ := (HK.out.below HB.out).at_ i hil
   have HKL := Aside0.mk (HKO.out _ (getD_mem hil []))
   have HC := Aside0.mk hci
   obtain ⟨li, hli⟩ : ∃ u, ls.getD i [] = u := ⟨_, rfl⟩
   rw [hli] at hp HKL HC hKi
   have HKI : Aside0 (Kn wr Ai li) := ⟨hKi⟩
   have HIN := Aside0.mk hin
   have HLI := Aside0.mk hli
   have HIL := Aside0.mk hil
   obtain ⟨m, hm⟩ : ∃ m, li.length = m := ⟨_, rfl⟩
   rw [hm] at hp HC
   have HMM := Aside0.mk hm
   by_cases h64 : 64 < m
   ·have d1 : decide ((m : Int) > 64) = true := decide_eq_true (by omega)
    have d2 : (64 < m) = True := eq_true h64
    have HF : Aside0 (mayB ls = false) := ⟨by rw [HM.out, vall_not hil (by rw [hli, chk_40 (.inr (by omega))]; decide)]; rfl⟩
    clear h8 hin hil hKi hci hli hm h64
    go_wp2
    go_ret
    exact ⟨by rw [HF.out]; rfl, HB.out⟩
   ·have d1 : decide ((m : Int) > 64) = false := decide_eq_false (by omega)
    have d2 : (64 < m) = False := eq_false h64
    have HCH : Aside0 (∀ W, Kn W Ai li → Calls Try.prog 30 #[.slice Ai m ci] W fun e w' => e = .returned (.int .i64 ((chk li : Nat) : Int)) ∧ Drawn0 W w') := ⟨fun W h => by rw [← hm]; exact rCheck_calls li HKL.out (by omega) Ai ci (by rw [hm]; exact HC.out) W h⟩
    obtain ⟨ek, hek⟩ : ∃ k, chk li = k := ⟨_, rfl⟩
    rw [hek] at HCH
    by_cases h0 : ek = 0
    ·subst h0
     have HE := Aside0.mk hek
     have t1 : (((0 : Nat) : Int) != 0) = false := by decide
     clear h8 hin hil hKi hci hli hm h64 hek
     go_wp2_with (go_at_call 30; (with_reducible refine (HCH.out _ HKI.out).mono ?_); rintro e w5 ⟨rfl, hd⟩; have B5 := Aside0.mk (below_step HB.out hd.below); clear hd)
     go_roundg (n - (i + 1))
     case measure => have := HIN.out; omega
     case rel => exact ⟨i + 1, by first | rfl | (congr 1; omega), HIN.out, by omega, B5, ⟨fun j hj => by
      rcases Nat.lt_or_eq_of_le (Nat.lt_succ_iff.mp hj) with h | h
      ·exact I.out j h
      ·rw [h, HLI.out]; exact HE.out⟩⟩
    ·have t1 : ((ek : Int) != 0) = true := by rw [bne_iff_ne]; omega
     have t2 : decide ((ek : Int) = 0) = false := decide_eq_false (by omega)
     have t3 : (ek = 0) = False := eq_false h0
     have HF : Aside0 (mayB ls = false) := ⟨by rw [HM.out, vall_not hil (by rw [hli, hek]; exact h0)]; rfl⟩
     clear h8 hin hil hKi hci hli hm h64 hek h0
     go_wp2_with (go_at_call 30; (with_reducible refine (HCH.out _ HKI.out).mono ?_); rintro e w5 ⟨rfl, hd⟩; have B5 := Aside0.mk (below_step HB.out hd.below); clear hd)
     go_ret
     exact ⟨by rw [HF.out]; rfl, B5.out⟩
  ·obtain rfl : i = n := by omega
   have dd : decide ((i : Int) < (i : Int)) = false := decide_eq_false (by omega)
   have HV : Aside0 (mayB ls = (decide (1 ≤ i) && decide (i ≤ 8))) := ⟨by rw [HM.out, vall_of (fun j hj => I.out j (by have := HN.out; omega)), Bool.true_and]⟩
   clear hin h8
   by_cases a : 1 ≤ i
   ·by_cases b : i ≤ 8
    ·have e1 : decide ((i : Int) ≥ 1) = true := decide_eq_true (by omega)
     have e2 : decide ((i : Int) ≤ 8) = true := decide_eq_true (by omega)
     have e3 : (1 ≤ i) = True := eq_true a
     have e4 : (i ≤ 8) = True := eq_true b
     have e5 : decide ((1 : Int) ≤ (i : Int)) = true := decide_eq_true (by omega)
     have HF : Aside0 (mayB ls = true) := ⟨by rw [HV.out, decide_eq_true a, decide_eq_true b]; rfl⟩
     clear a b
     go_wp2
     go_ret
     exact ⟨by rw [HF.out]; rfl, HB.out⟩
    ·have e1 : decide ((i : Int) ≥ 1) = true := decide_eq_true (by omega)
     have e2 : decide ((i : Int) ≤ 8) = false := decide_eq_false (by omega)
     have e3 : (1 ≤ i) = True := eq_true a
     have e4 : (i ≤ 8) = False := eq_false b
     have e5 : decide ((1 : Int) ≤ (i : Int)) = true := decide_eq_true (by omega)
     have HF : Aside0 (mayB ls = false) := ⟨by rw [HV.out, decide_eq_true a, decide_eq_false b]; rfl⟩
     clear a b
     go_wp2
     go_ret
     exact ⟨by rw [HF.out]; rfl, HB.out⟩
   ·have e1 : decide ((i : Int) ≥ 1) = false := decide_eq_false (by omega)
    have e3 : (1 ≤ i) = False := eq_false a
    have e5 : decide ((1 : Int) ≤ (i : Int)) = false := decide_eq_false (by omega)
    have HF : Aside0 (mayB ls = false) := ⟨by rw [HV.out, decide_eq_false a]; rfl⟩
    clear a
    go_wp2
    go_ret
    exact ⟨by rw [HF.out]; rfl, HB.out⟩
end Go.Proofs.Ytkicfaboibfbpaa.A
end
section
set_option linter.unusedVariables false
set_option linter.unusedSimpArgs false
namespace Go.Proofs.Ytkicfaboibfbpaa.A
open Go.RowKit Go.Proofs.YtkicfaboibfbpaaW.PrintWords Go.Proofs.YtkicfaboibfbpaaW.PrintLast Go.Proofs.YtkicfaboibfbpaaW.PrintMore Go.Proofs.Ytkicfaboibfbpaa.PCurveAts
theorem NewC.lower {w : World} {b b' g cb : Nat} {B : Option Addr} {l : List (Nat × Nat)} (h : NewC w b g B cb l) (hb : b' ≤ b) : NewC w b' g B cb l := ⟨Nat.le_trans hb h.1, h.2.1, h.2.2.lower hb⟩
theorem PR.as {w : World} {b : Nat} {v : Value} {gs : List Nat} (h : PR w b v gs) : ∃ A n c, v = .slice A n c := by
 obtain ⟨A, c, e⟩ := Kd.R_slice h
 exact ⟨A, _, c, e⟩
theorem PR.len {w : World} {b n c : Nat} {A : Option Addr} {gs : List Nat} (h : PR w b (.slice A n c) gs) : n = gs.length ∧ n ≤ c ∧ pk.C w A gs.length gs := Kd.R_reads' h
theorem take_snoc {α : Type} {ls : List α} {i : Nat} {d : α} (h : i < ls.length) : ls.take (i + 1) = ls.take i ++ [ls.getD i d] := by
 rw [List.take_add_one, List.getD_eq_getElem?_getD, List.getElem?_eq_getElem h]; rfl
theorem fin_F32 {s : Nat} {z : Int} (h : F32 s z) : fin s = true := by
 have h1 := h.ok
 have hs := h1.2
 obtain ⟨a, r, rfl, hr, _⟩ := h
 have hp := pz_word a (r := r) (by have := Ieee.Format.infRung_lt Ieee.single; omega)
 have e : Ieee.single.infRung = 2139095040 := by decide
 rw [e] at hr
 unfold fin
 refine decide_eq_true (fun h5 => ?_)
 unfold pz at hp
 unfold sg at hp
 cases a
 ·simp only [Bool.false_eq_true, if_false] at hp
  split at hp <;> omega
 ·simp only [if_true] at hp
  split at hp <;> omega
theorem val_chk {l : List (Nat × Nat)} (h : Val l) : chk l = 0 := by
 have two := h.two
 have most := h.most
 refine chk_0 (by omega) (fun i hi => ?_) h.ris
 obtain ⟨⟨y, h1⟩, ⟨z, h2⟩⟩ := h.fin i hi
 exact ⟨fin_F32 h1, fin_F32 h2⟩
set_option maxHeartbeats 8000000 in
theorem some_calls (A : Option Addr) (c : Nat) (ls : List (List (Nat × Nat))) (hv : ∀ l ∈ ls, Val l) (h18 : 1 ≤ ls.length ∧ ls.length ≤ 8) (w : World) (hK : KsA w A ls) :
    Calls Try.prog 20 #[.slice A ls.length c] w fun e w' => ∃ gc gs, e = .returned (.pointer (some ⟨gc, 0, none⟩)) ∧ ChB w' gc gs ls ∧ Below w.heap.size w w' := by
 obtain ⟨n, hn⟩ : ∃ n, ls.length = n := ⟨_, rfl⟩
 rw [hn] at h18 ⊢
 have HK : Aside0 (KsA w A ls) := ⟨hK⟩
 have HVV := Aside0.mk hv
 have HN := Aside0.mk hn
 have H8 := Aside0.mk h18
 clear hK hv hn h18
 go_enter Try.func20, Try.ntmps20
 go_wp2
 go_loopg [3, 4] n (fun kx s3 s4 wr => ∃ (i : Nat) (Av : Option Addr) (nv cv : Nat) (gs : List Nat), s4 = .int .i64 (i : Int) ∧ s3 = .slice Av nv cv ∧ i ≤ n ∧ n - i ≤ kx ∧ Aside0 (Below w.heap.size w wr) ∧ Aside0 (PR wr w.heap.size (.slice Av nv cv) gs) ∧ Aside0 (Cvn wr w.heap.size gs (ls.take i)) ∧ Aside0 (gs.length = i))
 case atStart => exact ⟨0, none, 0, 0, [], rfl, rfl, Nat.zero_le _, by omega, ⟨Below.refl _ _⟩, ⟨Kd.R_nil _ _ _ _ _⟩, ⟨Cvn.nil _ _⟩, ⟨rfl⟩⟩
 case round =>
  obtain ⟨i, Av, nv, cv, gs, rfl, rfl, i1, i2, HB, HV, HN2, HGL⟩ := hrel
  have h8 := H8.out
  by_cases hin : i < n
  ·have hil : i < ls.length := by have := HN.out; omega
   have e1i : decide ((0 : Int) ≤ (i : Int)) = true := decide_eq_true (by omega)
   have e2i : decide ((i : Int) < (n : Int)) = true := decide_eq_true (by omega)
   have e5i : ((0 : Int) ≤ (i : Int)) = True := eq_true (by omega)
   have e6i : ((i : Int) < (n : Int)) = True := eq_true (by omega)
   have e7i : (i < n) = True := eq_true (by omega)
   have wi : IntKind.i64.wrap ((i : Int) + 1) = ((i + 1 : Nat) : Int) := by rw [show IntKind.i64.wrap ((i : Int) + 1) = wrap64 ((i : Int) + 1) from i64_w _, w64 (by omega) (by omega)]; omega
   obtain ⟨ad, Ai, ci, rfl, hp, hci, hKi⟩ := (HK.out.below HB.out).at_ i hil
   have HVI := Aside0.mk (HVV.out _ (getD_mem hil []))
   have HC := Aside0.mk hci
   obtain ⟨li, hli⟩ : ∃ u, ls.getD i [] = u := ⟨_, rfl⟩
   rw [hli] at hp HVI HC hKi
   have HKC0 : k43.C wr Ai li.length (li.map kI) := hKi
   have h64 := HVI.out.most
   have HIN := Aside0.mk hin
   have HLI := Aside0.mk hli
   have HIL := Aside0.mk hil
   have HNEW : Aside0 (∀ A c w, Kn w A li → li.length ≤ c → Calls Try.prog 31 #[.slice A li.length c] w fun e w' => ∃ g B cb, e = .returned (.tuple #[.pointer (some ⟨g, 0, none⟩), .int .i64 0]) ∧ NewC w' w.heap.size g B cb li ∧ Below w.heap.size w w') := ⟨fun A c w h1 h2 => New_ok HVI.out.ok (by omega) h2 (val_chk HVI.out) w h1⟩
   obtain ⟨m, hm⟩ : ∃ m, li.length = m := ⟨_, rfl⟩
   rw [hm] at hp HC HKC0 HNEW h64
   have HKC := Aside0.mk HKC0
   have HMM := Aside0.mk hm
   have HLE : Aside0 ((([] : List S43).length + m) * 8 ≤ 140737488355328) := ⟨by simp only [List.length_nil]; omega⟩
   have HLG : Aside0 ((gs.length + 1) * 8 ≤ 140737488355328) := ⟨by have := HGL.out; omega⟩
   clear h8 hin hil hKi hci hli hm h64 HKC0
   go_wp2_with (first | ((with_reducible refine gate_dst (N := 20) rfl ?_); refine Kd.R_append_rows k43 (W := wr) (Rr := k43.K wr) (w0 := wr) wr.heap.size rfl (.const (.slice none 0 0)) (.tmp 19) 23 43 (.agg #[.int .u32 0, .int .u32 0]) 8 rfl Try.underlying23 info43 rfl (by decide) (by decide) (.slice none 0 0) [] (li.map kI) Ai m ci (fun _ => True) (fun _ => False) rfl rfl (KR.nil wr _) HKC.out (fun x cs h => k43_any _ _ _ _ _ _ h) (fun _ h => h.elim) (fun _ _ => trivial) (Below.refl _ _) (Nat.le_refl _) HLE.out ?_; intro v1 w1 hR hB hg hat; rw [List.nil_append] at hR; have R1 : Aside0 (KR w1 wr.heap.size v1 li) := ⟨hR⟩; have B1 := Aside0.mk hB; obtain ⟨A1, n1, c1, rfl, hn1⟩ := R1.out.as; obtain rfl : m = n1 := (hn1.trans HMM.out).symm; have R1K : Aside0 (Kn w1 A1 li) := ⟨R1.out.kn.2.2⟩; have R1C : Aside0 (m ≤ c1) := ⟨R1.out.kn.2.1⟩; have V1 : Aside0 (PR w1 w.heap.size (.slice Av nv cv) gs) := ⟨Kd.R_below HV.out hB⟩; have N1 := Aside0.mk (HN2.out.below hB); clear hR hB hg hat hn1) | (go_at_call 31; (with_reducible refine (HNEW.out A1 c1 w1 R1K.out R1C.out).mono ?_); rintro e w2 ⟨g, B, cb, rfl, hC, hb⟩; have C2 : Aside0 (NewC w2 w.heap.size g B cb li) := ⟨NewC.lower hC (below_step HB.out B1.out).size⟩; have B2 := Aside0.mk (below_step B1.out hb); have V2 : Aside0 (PR w2 w.heap.size (.slice Av nv cv) gs) := ⟨Kd.R_below V1.out hb⟩; have N2 := Aside0.mk (N1.out.below hb); clear hC hb) | ((with_reducible refine gate_builtin (b := .append) (xs := #[.tmp 30, .tmp 32]) rfl ?_); at_builtin; refine Kd.R_append pk (w0 := w) w.heap.size rfl (.tmp 30) (.tmp 32) 61 26 (.pointer none) 8 rfl Try.underlying61 info26 rfl (by decide) (by decide) (.slice Av nv cv) gs g [.pointer (some ⟨g, 0, none⟩)] (fun _ => True) (fun _ => False) rfl rfl rfl (fun _ h => h.elim) (fun _ _ => trivial) V2.out (below_step HB.out B2.out) (below_step HB.out B2.out).size HLG.out ?_; intro v9 w9 hR hB hg hat; have V9 : Aside0 (PR w9 w.heap.size v9 (gs ++ [g])) := ⟨hR⟩; have B9 := Aside0.mk hB; have N9 : Aside0 (Cvn w9 w.heap.size (gs ++ [g]) (ls.take (i + 1))) := ⟨by rw [take_snoc HIL.out, HLI.out]; exact (N2.out.snoc C2.out).grown V2.out hg⟩; clear hR hB hg hat; obtain ⟨A9, n9, c9, rfl⟩ := PR.as V9.out))
   go_roundg (n - (i + 1))
   case measure => have := HIN.out; omega
   case rel => exact ⟨i + 1, A9, n9, c9, gs ++ [g], by first | rfl | (congr 1; omega), rfl, HIN.out, by omega, B9, V9, N9, ⟨by have := HGL.out; simp; omega⟩⟩
  ·obtain rfl : i = n := by omega
   have dd : decide ((i : Int) < (i : Int)) = false := decide_eq_false (by omega)
   have hC := HN2.out
   rw [List.take_of_length_le (by have := HN.out; omega)] at hC
   have HCV : Aside0 (Cvn wr w.heap.size gs ls) := ⟨hC⟩
   obtain ⟨p1, p2, p3⟩ := HV.out.len
   have hg := HGL.out
   obtain rfl : nv = i := by omega
   have HJO : Aside0 (Calls Try.prog 32 #[.slice Av nv cv] wr fun e w' => ∃ gc B cb, e = .returned (.tuple #[.pointer (some ⟨gc, 0, none⟩), .int .i64 0]) ∧ ChN w' wr.heap.size gc B cb gs ∧ Below wr.heap.size wr w') := ⟨by
    have := Join_own Av cv gs (by omega) (by omega) wr p3
    rwa [← p1] at this⟩
   clear hC p1 p2 p3 hg hin h8
   go_wp2_with (go_at_call 32; refine HJO.out.mono ?_; rintro e w5 ⟨gc, B, cb, rfl, hC, hb⟩; have C5 := Aside0.mk hC; have B5 := Aside0.mk hb; clear hC hb)
   go_ret
   exact ⟨gc, gs, rfl, C5.out.chb (HCV.out.below B5.out).cvs, below_step HB.out B5.out⟩
end Go.Proofs.Ytkicfaboibfbpaa.A
end
section
set_option linter.unusedVariables false
set_option linter.unusedSectionVars false
namespace Go.Proofs.Ytkicfaboibfbpaa.A
section
variable {a b : Nat} (ha : a < 4294967296) (hb : b < 4294967296) (na : isnan a = false) (nb : isnan b = false)
include ha hb na nb
theorem ord_nn : FloatKind.f32.format.order a b = some (compare (pz a) (pz b)) := by
 have e : FloatKind.f32.format.order a b = Ieee.single.order a b := rfl
 rw [e, ord_s ha hb, if_neg (by rw [na, nb]; decide)]
theorem leq_t (h : pz a ≤ pz b) : (FloatKind.f32.format.order a b == some .lt || FloatKind.f32.format.order a b == some .eq) = true ∧ (FloatKind.f32.format.order a b = some .lt ∨ FloatKind.f32.format.order a b = some .eq) = True := by
 rw [ord_nn ha hb na nb, cmp_if]
 by_cases h1 : pz a < pz b
 ·rw [if_pos h1]; exact ⟨rfl, eq_true (.inl rfl)⟩
 ·rw [if_neg h1, if_pos (by omega)]; exact ⟨rfl, eq_true (.inr rfl)⟩
theorem leq_f (h : pz b < pz a) : (FloatKind.f32.format.order a b == some .lt || FloatKind.f32.format.order a b == some .eq) = false ∧ (FloatKind.f32.format.order a b = some .lt ∨ FloatKind.f32.format.order a b = some .eq) = False := by
 rw [ord_nn ha hb na nb, cmp_if, if_neg (by omega), if_neg (by omega)]
 exact ⟨rfl, eq_false (fun h => by rcases h with h | h <;> cases h)⟩
theorem geq_t (h : pz b ≤ pz a) : (FloatKind.f32.format.order a b == some .gt || FloatKind.f32.format.order a b == some .eq) = true ∧ (FloatKind.f32.format.order a b = some .gt ∨ FloatKind.f32.format.order a b = some .eq) = True := by
 rw [ord_nn ha hb na nb, cmp_if]
 by_cases h1 : pz b < pz a
 ·rw [if_neg (by omega), if_neg (by omega)]; exact ⟨rfl, eq_true (.inl rfl)⟩
 ·rw [if_neg (by omega), if_pos (by omega)]; exact ⟨rfl, eq_true (.inr rfl)⟩
end
theorem neq_f {a : Nat} (ha : a < 4294967296) (na : isnan a = false) : (FloatKind.f32.format.order a a != some .eq) = false ∧ (FloatKind.f32.format.order a a = some .eq) = True ∧ (FloatKind.f32.format.order a a == some .eq) = true := by
 rw [ord_nn ha ha na na, cmp_if, if_neg (by omega), if_pos rfl]; exact ⟨rfl, eq_true rfl, rfl⟩
theorem ord_nan {a b : Nat} (ha : a < 4294967296) (hb : b < 4294967296) (h : isnan a = true ∨ isnan b = true) : FloatKind.f32.format.order a b = none := by
 have e : FloatKind.f32.format.order a b = Ieee.single.order a b := rfl
 rw [e, ord_s ha hb, if_pos h]
theorem neq_t {a : Nat} (ha : a < 4294967296) (na : isnan a = true) : (FloatKind.f32.format.order a a != some .eq) = true ∧ (FloatKind.f32.format.order a a = some .eq) = False ∧ (FloatKind.f32.format.order a a == some .eq) = false := by
 rw [ord_nan ha ha (.inl na)]; exact ⟨rfl, eq_false (fun h => by cases h), rfl⟩
theorem leq_nan {a b : Nat} (ha : a < 4294967296) (hb : b < 4294967296) (h : isnan a = true ∨ isnan b = true) : (FloatKind.f32.format.order a b == some .lt || FloatKind.f32.format.order a b == some .eq) = false ∧ (FloatKind.f32.format.order a b = some .lt ∨ FloatKind.f32.format.order a b = some .eq) = False := by
 rw [ord_nan ha hb h]; exact ⟨rfl, eq_false (fun h => by rcases h with h | h <;> cases h)⟩
/-- all lies between the last curve's ends -/
theorem atA_law {ls : List (List (Nat × Nat))} (hv : ∀ l ∈ ls, Val l) (h0 : ls ≠ []) {x : Nat} (hx : x < 4294967296) (nx : isnan x = false) :
    pz (gk (ls.getD (ls.length - 1) []) 0).2 ≤ pz (atA ls x) ∧ pz (atA ls x) ≤ pz (gk (ls.getD (ls.length - 1) []) ((ls.getD (ls.length - 1) []).length - 1)).2 := by
 have e : ls = ls.dropLast ++ [ls.getD (ls.length - 1) []] := by
  have h1 := (List.dropLast_concat_getLast h0).symm
  have h2 : ls.getLast h0 = ls.getD (ls.length - 1) [] := by
   have : 0 < ls.length := List.length_pos_iff.mpr h0
   rw [List.getLast_eq_getElem, List.getD_eq_getElem?_getD, List.getElem?_eq_getElem (by omega)]; rfl
  rw [h2] at h1
  exact h1
 have hl : Val (ls.getD (ls.length - 1) []) := hv _ (by rw [e]; simp)
 have hr := ris_all ls.dropLast (fun l hl => hv l (by rw [e]; simp [hl]))
 have h3 : atA ls x = atP (ls.getD (ls.length - 1) []) (atA ls.dropLast x) := by
  have : atA (ls.dropLast ++ [ls.getD (ls.length - 1) []]) x = atP (ls.getD (ls.length - 1) []) (atA ls.dropLast x) := by unfold atA; rw [List.foldl_append]; rfl
  rw [← e] at this
  exact this
 rw [h3]
 have h4 := at_law hl (hr.word x hx) (hr.nn x hx nx)
 exact h4.2.2
end Go.Proofs.Ytkicfaboibfbpaa.A
end
section
set_option linter.unusedVariables false
set_option linter.unusedSimpArgs false
namespace Go.Proofs.Ytkicfaboibfbpaa.A
open Go.RowKit Go.Proofs.YtkicfaboibfbpaaW.PrintWords Go.Proofs.YtkicfaboibfbpaaW.PrintLast Go.Proofs.YtkicfaboibfbpaaW.PrintMore Go.Proofs.Ytkicfaboibfbpaa.PCurveAts
section
variable {P : Program} {ops : Array Oper} {Q : Exit → Act → World → Prop} {o : Oper} {rest : List Oper} {a : Act}
/-- an operation that leaves the world, guarded or not -/
theorem evg {W : World} (hw : Region.wanted o (yielded ops a.tmps) = true) (v : Value) (hrun : (execOp a.eval o).run P W = .ok (.value v) W) (h : wpList P ops Q rest (a.put o.dst v) W) : wpList P ops Q (o :: rest) a W := by
 refine wpList_step fun K hK => ?_
 rw [if_pos hw]
 unfold Oper.wp
 rw [hrun]
 exact hK _ _ h
end
set_option maxHeartbeats 16000000 in
set_option maxRecDepth 100000 in
theorem curveRises_main (A1 : Option Addr) (c1 : Nat) (ls : List (List (Nat × Nat))) (A2 : Option Addr) (c2 : Nat) (xs : List Nat) (w : World) (hK : KsA w A1 ls) (hc1 : ls.length ≤ c1) (hl : ∀ l ∈ ls, kok l) (hX : Ws w A2 xs) (hc2 : xs.length ≤ c2) (hx : ∀ i, gt xs i < 4294967296) (g1 : ¬ 60 < xs.length) (hm : mayB ls = true) :
    Calls Try.prog 6 #[.slice A1 ls.length c1, .slice A2 xs.length c2] w fun e w' => e = .returned (.bool true) ∧ Below w.heap.size w w' := by
 have hfrom := fun (s : Nat) (w : World) => run_from s w
 have HMAY : Aside0 (∀ W, Below w.heap.size w W → Calls Try.prog 19 #[.slice A1 ls.length c1] W fun e w' => e = .returned (.bool true) ∧ Below W.heap.size W w') := ⟨fun W hb => by
  have := may_calls A1 c1 ls hl W (hK.below hb)
  rwa [hm] at this⟩
 have hm2 := hm
 unfold mayB at hm2
 simp only [Bool.and_eq_true, decide_eq_true_eq] at hm2
 have hv := vall_val hl hm2.1
 have h18 := hm2.2
 have hne : ls ≠ [] := fun e => by rw [e] at h18; exact absurd h18.1 (by decide)
 have HSO : Aside0 (∀ W, Below w.heap.size w W → Calls Try.prog 20 #[.slice A1 ls.length c1] W fun e w' => ∃ gc gs, e = .returned (.pointer (some ⟨gc, 0, none⟩)) ∧ ChB w' gc gs ls ∧ Below W.heap.size W w') := ⟨fun W hb => some_calls A1 c1 ls hv h18 W (hK.below hb)⟩
 have RF := ris_all ls hv
 have HNAN : Aside0 (∀ x, isnan x = true → atA ls x = made) := ⟨fun x h => atA_nan ls x hne h⟩
 have HCH : Aside0 (∀ W gc gs (x : Nat), x < 4294967296 → ChB W gc gs ls → Calls Try.prog 22 #[.pointer (some ⟨gc, 0, none⟩), .int .u32 (x : Int)] W fun e w' => e = .returned (.int .u32 ((atA ls x : Nat) : Int)) ∧ Below W.heap.size W w') := ⟨fun W gc gs x hx h => ChainAt_calls gc gs ls hv h18.2 h18.1 x hx W h⟩
 obtain ⟨lo, hlo⟩ : ∃ u, (gk (ls.getD (ls.length - 1) []) 0).2 = u := ⟨_, rfl⟩
 obtain ⟨hi, hhi⟩ : ∃ u, (gk (ls.getD (ls.length - 1) []) ((ls.getD (ls.length - 1) []).length - 1)).2 = u := ⟨_, rfl⟩
 have HLAW : Aside0 (∀ x, x < 4294967296 → isnan x = false → pz lo ≤ pz (atA ls x) ∧ pz (atA ls x) ≤ pz hi) := ⟨fun x hx nx => by rw [← hlo, ← hhi]; exact atA_law hv hne hx nx⟩
 have hvl : Val (ls.getD (ls.length - 1) []) := hv _ (getD_mem (by omega) _)
 obtain ⟨F, hF⟩ : ∃ F, atA ls = F := ⟨_, rfl⟩
 rw [hF] at RF HNAN HCH HLAW
 obtain ⟨q, hq⟩ : ∃ q, ls.length = q + 1 := ⟨ls.length - 1, by omega⟩
 rw [show ls.length - 1 = q by omega] at hlo hhi hvl
 obtain ⟨ll, hll⟩ : ∃ u, ls.getD q [] = u := ⟨_, rfl⟩
 rw [hll] at hlo hhi hvl
 obtain ⟨p, hp⟩ : ∃ p, ll.length = p + 1 := ⟨ll.length - 1, by have := hvl.two; omega⟩
 rw [show ll.length - 1 = p by omega] at hhi
 have hll64 := hvl.most
 have HLO : Aside0 (lo < 4294967296 ∧ isnan lo = false) := ⟨by rw [← hlo]; exact ⟨(gk_ok hvl.ok _).2, (hvl.nx (by omega)).2⟩⟩
 have HHI : Aside0 (hi < 4294967296 ∧ isnan hi = false) := ⟨by rw [← hhi]; exact ⟨(gk_ok hvl.ok _).2, (hvl.nx (by omega)).2⟩⟩
 have HLK : Aside0 (∀ W, Below w.heap.size w W → ∃ ad al cl, A1 = some ad ∧ W.cell? (ad.add q) = some (.slice (some al) ll.length cl) ∧ W.cell? ⟨al.block, al.off + 1, none⟩ = some (.int .u32 (lo : Int)) ∧ W.cell? ⟨(al.add (p * 2)).block, (al.add (p * 2)).off + 1, none⟩ = some (.int .u32 (hi : Int))) := ⟨fun W hb => by
  obtain ⟨ad, B, c, e, h1, h2, h3⟩ := (hK.below hb).at_ q (by omega)
  rw [hll] at h1 h2 h3
  obtain ⟨al, rfl, _⟩ := kn_at h3 0 (by omega)
  refine ⟨ad, al, c, e, h1, ?_, ?_⟩
  ·rw [← hlo]; exact (kn_at0 h3 (by omega)).2
  ·rw [← hhi]; exact (kn_at2 h3 p (by omega)).2⟩
 have HRF := Aside0.mk RF
 have HX : Aside0 (∀ w', Below w.heap.size w w' → Ws w' A2 xs) := ⟨fun w' hb => hX.below hb⟩
 have HG := Aside0.mk hx
 obtain ⟨n, hn⟩ : ∃ n, ls.length = n := ⟨_, rfl⟩
 obtain ⟨m, hmm⟩ : ∃ n, xs.length = n := ⟨_, rfl⟩
 obtain ⟨p1, hp1⟩ : ∃ n, ll.length = n := ⟨_, rfl⟩
 have HM := Aside0.mk hmm
 rw [hn] at HMAY HSO h18 hq ⊢
 rw [hmm] at g1 ⊢
 rw [hp1] at HLK hp hll64
 have d1 : decide ((m : Int) > 60) = false := decide_eq_false (by omega)
 have d2 : (60 < m) = False := eq_false g1
 have wq : IntKind.i64.wrap ((n : Int) - 1) = (q : Int) := by rw [show IntKind.i64.wrap ((n : Int) - 1) = wrap64 ((n : Int) - 1) from i64_w _, w64 (by omega) (by omega)]; omega
 have wp : IntKind.i64.wrap ((p1 : Int) - 1) = (p : Int) := by rw [show IntKind.i64.wrap ((p1 : Int) - 1) = wrap64 ((p1 : Int) - 1) from i64_w _, w64 (by omega) (by omega)]; omega
 have d3 : decide ((0 : Int) < (p1 : Int)) = true := decide_eq_true (by omega)
 have d4 : (0 < p1) = True := eq_true (by omega)
 have HSZ : Aside0 (m ≤ 60) := ⟨by omega⟩
 have e1q : decide ((0 : Int) ≤ (q : Int)) = true := decide_eq_true (by omega)
 have e2q : decide ((q : Int) < (n : Int)) = true := decide_eq_true (by omega)
 have e5q : ((0 : Int) ≤ (q : Int)) = True := eq_true (by omega)
 have e6q : ((q : Int) < (n : Int)) = True := eq_true (by omega)
 have e7q : (q < n) = True := eq_true (by omega)
 have e1p : decide ((0 : Int) ≤ (p : Int)) = true := decide_eq_true (by omega)
 have e2p : decide ((p : Int) < (p1 : Int)) = true := decide_eq_true (by omega)
 have e5p : ((0 : Int) ≤ (p : Int)) = True := eq_true (by omega)
 have e6p : ((p : Int) < (p1 : Int)) = True := eq_true (by omega)
 have e7p : (p < p1) = True := eq_true (by omega)
 clear hK hc1 hl hX hc2 hx g1 hm hm2 hv h18 hne RF hF hlo hhi hvl hq hll hp hll64 hn hmm hp1
 go_enter Try.func6, Try.ntmps6
 obtain ⟨ad, al, cl, rfl, k0, k1, k2⟩ := HLK.out w (Below.refl _ _)
 clear k0 k1 k2
 go_wp2_with (first | (go_at_call 10; (with_reducible refine (known_calls _).mono ?_); rintro e w1 ⟨rfl, hb⟩; have B1 := Aside0.mk hb; clear hb) | (go_at_call 19; (with_reducible refine (HMAY.out w1 B1.out).mono ?_); rintro e w2 ⟨rfl, hb⟩; have B2 := Aside0.mk (below_step B1.out hb); clear hb) | (go_at_call 20; (with_reducible refine (HSO.out w2 B2.out).mono ?_); rintro e w3 ⟨gc, gs, rfl, hC, hb⟩; have B3 := Aside0.mk (below_step B2.out hb); have C3 : Aside0 (ChB w3 gc gs ls) := ⟨hC⟩; obtain ⟨ad3, al3, cl3, e3, k0, k1, k2⟩ := HLK.out w3 B3.out; obtain rfl := Option.some.inj e3; have K1 := Aside0.mk k1; have K2 := Aside0.mk k2; clear hC hb e3 k1 k2))
 clear k0
 refine start_ (n := 15) (S := fun w' => w'.cell? ⟨al3.block, al3.off + 1, none⟩ = some (.int .u32 (lo : Int)) ∧ w'.cell? ⟨(al3.add (p * 2)).block, (al3.add (p * 2)).off + 1, none⟩ = some (.int .u32 (hi : Int))) (ds := []) #[ff_,ff_,ff_,ff_,ff_,ff_,ff_,ff_,ff_,ff_,ff_,ff_,ff_,ff_,ff_] (by kernel_rfl) rfl rfl ⟨K1.out, K2.out⟩ (fun hHeld => ?_)
 refine pure_ (i := 0) (N := some 34) (v := ?_) (a' := ?_) #[tt_,ff_,ff_,ff_,ff_,ff_,ff_,ff_,ff_,ff_,ff_,ff_,ff_,ff_,ff_] rfl rfl (by kernel_rfl) (fun _ _ _ h => h) (Or.inl ⟨by rfl, ?_⟩) ?_ ?_
 rotate_left
 ·intro w'
  go_simp
  with_reducible rfl
 rotate_left
 ·simp only [Act.put, List.setIfInBounds_toArray, List.set_cons_zero, List.set_cons_succ, i64_w, i32_w]
  rfl
 refine pure_ (i := 1) (N := some 35) (v := ?_) (a' := ?_) #[tt_,tt_,ff_,ff_,ff_,ff_,ff_,ff_,ff_,ff_,ff_,ff_,ff_,ff_,ff_] rfl rfl (by kernel_rfl) (fun _ _ _ h => h) (Or.inl ⟨by rfl, ?_⟩) ?_ ?_
 rotate_left
 ·intro w'
  go_simp
  with_reducible rfl
 rotate_left
 ·simp only [Act.put, List.setIfInBounds_toArray, List.set_cons_zero, List.set_cons_succ, i64_w, i32_w]
  rfl
 refine pure_ (i := 2) (N := some 36) (v := ?_) (a' := ?_) #[tt_,tt_,tt_,ff_,ff_,ff_,ff_,ff_,ff_,ff_,ff_,ff_,ff_,ff_,ff_] rfl rfl (by kernel_rfl) (fun _ _ _ h => h) (Or.inl ⟨by rfl, ?_⟩) ?_ ?_
 rotate_left
 ·intro w'
  go_simp
  with_reducible rfl
 rotate_left
 ·simp only [Act.put, List.setIfInBounds_toArray, List.set_cons_zero, List.set_cons_succ, i64_w, i32_w]
  rfl
 refine pure_ (i := 5) (N := some 39) (v := ?_) (a' := ?_) #[tt_,tt_,tt_,ff_,ff_,tt_,ff_,ff_,ff_,ff_,ff_,ff_,ff_,ff_,ff_] rfl rfl (by kernel_rfl) (fun _ _ _ h => h) (Or.inl ⟨by rfl, ?_⟩) ?_ ?_
 rotate_left
 ·intro w'
  go_simp
  with_reducible rfl
 rotate_left
 ·simp only [Act.put, List.setIfInBounds_toArray, List.set_cons_zero, List.set_cons_succ, i64_w, i32_w]
  rfl
 refine pure_ (i := 6) (N := some 40) (v := ?_) (a' := ?_) #[tt_,tt_,tt_,ff_,ff_,tt_,tt_,ff_,ff_,ff_,ff_,ff_,ff_,ff_,ff_] rfl rfl (by kernel_rfl) (fun _ _ _ h => h) (Or.inl ⟨by rfl, ?_⟩) ?_ ?_
 rotate_left
 ·intro w'
  go_simp
  with_reducible rfl
 rotate_left
 ·simp only [Act.put, List.setIfInBounds_toArray, List.set_cons_zero, List.set_cons_succ, i64_w, i32_w]
  rfl
 refine pure_ (i := 7) (N := some 41) (v := ?_) (a' := ?_) #[tt_,tt_,tt_,ff_,ff_,tt_,tt_,tt_,ff_,ff_,ff_,ff_,ff_,ff_,ff_] rfl rfl (by kernel_rfl) (fun _ _ _ h => h) (Or.inl ⟨by rfl, ?_⟩) ?_ ?_
 rotate_left
 ·intro w'
  go_simp
  with_reducible rfl
 rotate_left
 ·simp only [Act.put, List.setIfInBounds_toArray, List.set_cons_zero, List.set_cons_succ, i64_w, i32_w]
  rfl
 refine pure_ (i := 8) (N := some 42) (v := ?_) (a' := ?_) #[tt_,tt_,tt_,ff_,ff_,tt_,tt_,tt_,tt_,ff_,ff_,ff_,ff_,ff_,ff_] rfl rfl (by kernel_rfl) (fun _ _ _ h => h) (Or.inl ⟨by rfl, ?_⟩) ?_ ?_
 rotate_left
 ·intro w'
  go_simp
  with_reducible rfl
 rotate_left
 ·simp only [Act.put, List.setIfInBounds_toArray, List.set_cons_zero, List.set_cons_succ, i64_w, i32_w]
  rfl
 refine pure_ (i := 9) (N := some 43) (v := ?_) (a' := ?_) #[tt_,tt_,tt_,ff_,ff_,tt_,tt_,tt_,tt_,tt_,ff_,ff_,ff_,ff_,ff_] rfl rfl (by kernel_rfl) (fun _ _ _ h => h) (Or.inl ⟨by rfl, ?_⟩) ?_ ?_
 rotate_left
 ·intro w'
  go_simp
  with_reducible rfl
 rotate_left
 ·simp only [Act.put, List.setIfInBounds_toArray, List.set_cons_zero, List.set_cons_succ, i64_w, i32_w]
  rfl
 refine pure_ (i := 10) (N := some 44) (v := ?_) (a' := ?_) #[tt_,tt_,tt_,ff_,ff_,tt_,tt_,tt_,tt_,tt_,tt_,ff_,ff_,ff_,ff_] rfl rfl (by kernel_rfl) (fun _ _ _ h => h) (Or.inl ⟨by rfl, ?_⟩) ?_ ?_
 rotate_left
 ·intro w'
  go_simp
  with_reducible rfl
 rotate_left
 ·simp only [Act.put, List.setIfInBounds_toArray, List.set_cons_zero, List.set_cons_succ, i64_w, i32_w]
  rfl
 refine take_ (i := 3) (N := some 37) (v := ?_) (a' := ?_) #[tt_,tt_,tt_,tt_,ff_,tt_,tt_,tt_,tt_,tt_,tt_,ff_,ff_,ff_,ff_] rfl rfl (by kernel_rfl) (fun _ _ _ h => h) (Or.inl ⟨by rfl, ?_⟩) hHeld ?_ ?_
 rotate_left
 ·rintro w' ⟨s0, s1⟩
  go_simp
  with_reducible rfl
 rotate_left
 ·simp only [Act.put, List.setIfInBounds_toArray, List.set_cons_zero, List.set_cons_succ, i64_w, i32_w]
  rfl
 refine take_ (i := 11) (N := some 45) (v := ?_) (a' := ?_) #[tt_,tt_,tt_,tt_,ff_,tt_,tt_,tt_,tt_,tt_,tt_,tt_,ff_,ff_,ff_] rfl rfl (by kernel_rfl) (fun _ _ _ h => h) (Or.inl ⟨by rfl, ?_⟩) hHeld ?_ ?_
 rotate_left
 ·rintro w' ⟨s0, s1⟩
  go_simp
  with_reducible rfl
 rotate_left
 ·simp only [Act.put, List.setIfInBounds_toArray, List.set_cons_zero, List.set_cons_succ, i64_w, i32_w]
  rfl
 refine one_ (i := 4) (N := some 38) #[tt_,tt_,tt_,tt_,tt_,tt_,tt_,tt_,tt_,tt_,tt_,tt_,ff_,ff_,ff_] rfl rfl (by kernel_rfl) (by decide) (fun K hK => ?_)
 refine value_ (w1 := w3.drew) (v := .float .f32 lo) (by rfl) rfl ?_ ?_
 ·first | (go_simp; done) | (go_simp; rfl)
 refine hK.out _ _ ⟨K1.out, K2.out⟩ (fun hHeld => ?_)
 clear hK K
 refine norm_ (a' := ?_) ?_ ?_
 rotate_left
 ·show Act.put _ (some 38) _ = _
  simp only [Act.put, List.setIfInBounds_toArray, List.set_cons_zero, List.set_cons_succ, i64_w, i32_w]
  rfl
 refine one_ (i := 12) (N := some 46) #[tt_,tt_,tt_,tt_,tt_,tt_,tt_,tt_,tt_,tt_,tt_,tt_,tt_,ff_,ff_] rfl rfl (by kernel_rfl) (by decide) (fun K hK => ?_)
 refine value_ (w1 := w3.drew) (v := .float .f32 hi) (by rfl) rfl ?_ ?_
 ·first | (go_simp; done) | (go_simp; rfl)
 refine hK.out _ _ ⟨K1.out, K2.out⟩ (fun hHeld => ?_)
 clear hK K
 refine norm_ (a' := ?_) ?_ ?_
 rotate_left
 ·show Act.put _ (some 46) _ = _
  simp only [Act.put, List.setIfInBounds_toArray, List.set_cons_zero, List.set_cons_succ, i64_w, i32_w]
  rfl
 refine pure_ (i := 13) (N := some 7) (v := ?_) (a' := ?_) #[tt_,tt_,tt_,tt_,tt_,tt_,tt_,tt_,tt_,tt_,tt_,tt_,tt_,tt_,ff_] rfl rfl (by kernel_rfl) (fun _ _ _ h => h) (Or.inl ⟨by rfl, ?_⟩) ?_ ?_
 rotate_left
 ·intro w'
  go_simp
  with_reducible rfl
 rotate_left
 ·simp only [Act.put, List.setIfInBounds_toArray, List.set_cons_zero, List.set_cons_succ, i64_w, i32_w]
  rfl
 refine pure_ (i := 14) (N := some 8) (v := ?_) (a' := ?_) #[tt_,tt_,tt_,tt_,tt_,tt_,tt_,tt_,tt_,tt_,tt_,tt_,tt_,tt_,tt_] rfl rfl (by kernel_rfl) (fun _ _ _ h => h) (Or.inl ⟨by rfl, ?_⟩) ?_ ?_
 rotate_left
 ·intro w'
  go_simp
  with_reducible rfl
 rotate_left
 ·simp only [Act.put, List.setIfInBounds_toArray, List.set_cons_zero, List.set_cons_succ, i64_w, i32_w]
  rfl
 refine done_ (by kernel_rfl) ?_
 have B4 : Aside0 (Below w.heap.size w w3.drew) := ⟨below_drew B3.out⟩
 have C4 : Aside0 (ChB w3.drew gc gs ls) := ⟨C3.out.below (below_drew (Below.refl _ _))⟩
 generalize w3.drew = W0 at *
 clear B3 C3 K1 K2
 go_wp2
 go_loopg [9] m (fun kx s9 wr => ∃ i : Nat, s9 = .int .i64 (i : Int) ∧ i ≤ m ∧ m - i ≤ kx ∧ Aside0 (Below W0.heap.size W0 wr))
 case atStart => exact ⟨0, rfl, Nat.zero_le _, by omega, ⟨Below.refl _ _⟩⟩
 case round =>
  obtain ⟨i, rfl, i1, i2, HB⟩ := hrel
  have hs := HSZ.out
  by_cases hin : i < m
  case neg =>
   obtain rfl : i = m := by omega
   have dd : decide ((i : Int) < (i : Int)) = false := decide_eq_false (by omega)
   clear hs hin
   go_wp2
   go_ret
   exact ⟨rfl, below_step B4.out HB.out⟩
  have HIN := Aside0.mk hin
  have HIX : Aside0 (i < xs.length) := ⟨by have := HM.out; omega⟩
  have e1i : decide ((0 : Int) ≤ (i : Int)) = true := decide_eq_true (by omega)
  have e2i : decide ((i : Int) < (m : Int)) = true := decide_eq_true (by omega)
  have e5i : ((0 : Int) ≤ (i : Int)) = True := eq_true (by omega)
  have e6i : ((i : Int) < (m : Int)) = True := eq_true (by omega)
  have e7i : (i < m) = True := eq_true (by omega)
  have wi : IntKind.i64.wrap ((i : Int) + 1) = ((i + 1 : Nat) : Int) := by rw [show IntKind.i64.wrap ((i : Int) + 1) = wrap64 ((i : Int) + 1) from i64_w _, w64 (by omega) (by omega)]; omega
  have HXW : Aside0 (∀ W, Below wr.heap.size wr W → Ws W A2 xs) := ⟨fun W hb => HX.out W (below_step (below_step B4.out HB.out) hb)⟩
  obtain ⟨ax, rfl, hcx⟩ := (HXW.out wr (Below.refl _ _)).at_ i HIX.out
  have HCW : Aside0 (∀ W, Below wr.heap.size wr W → ChB W gc gs ls) := ⟨fun W hb => (C4.out.below HB.out).below hb⟩
  obtain ⟨x, hx⟩ : ∃ x, gt xs i = x := ⟨_, rfl⟩
  have HXL : Aside0 (x < 4294967296) := ⟨by rw [← hx]; exact HG.out i⟩
  rw [hx] at hcx
  have HC1 : Aside0 (∀ W, Below wr.heap.size wr W → Calls Try.prog 22 #[.pointer (some ⟨gc, 0, none⟩), .int .u32 (x : Int)] W fun e w' => e = .returned (.int .u32 ((F x : Nat) : Int)) ∧ Below W.heap.size W w') := ⟨fun W hb => HCH.out W gc gs x HXL.out (HCW.out W hb)⟩
  clear hs hin hx
  cases nx : isnan x
  case true =>
   obtain ⟨z1, z2, z3⟩ := neq_t HXL.out nx
   have HC2 : Aside0 (∀ W, Below wr.heap.size wr W → Calls Try.prog 22 #[.pointer (some ⟨gc, 0, none⟩), .int .u32 (x : Int)] W fun e w' => e = .returned (.int .u32 2143289344) ∧ Below W.heap.size W w') := ⟨fun W hb => by
    have := HC1.out W hb
    rw [HNAN.out x nx] at this
    exact this⟩
   clear HC1
   go_wp2_with (first | ((with_reducible refine gate_dst (N := 57) rfl ?_); refine evg (by rfl) (.float .f32 x) ?hr ?_; (case hr => first | (go_simp; done) | (go_simp; rfl))) | (go_at_call 22; (with_reducible refine (HC2.out _ (Below.refl _ _)).mono ?_); rintro e w5 ⟨rfl, hb⟩; have B5 := Aside0.mk hb; clear hb))
   go_roundg (m - (i + 1))
   case measure => have := HIN.out; omega
   case rel => exact ⟨i + 1, by first | rfl | (congr 1; omega), HIN.out, by omega, ⟨below_step HB.out B5.out⟩⟩
  obtain ⟨z1, z2, z3⟩ := neq_f HXL.out nx
  obtain ⟨y, hy⟩ : ∃ y, F x = y := ⟨_, rfl⟩
  rw [hy] at HC1
  have HY : Aside0 (y < 4294967296 ∧ isnan y = false) := ⟨by rw [← hy]; exact ⟨HRF.out.word x HXL.out, HRF.out.nn x HXL.out nx⟩⟩
  have hlaw := HLAW.out x HXL.out nx
  rw [hy] at hlaw
  obtain ⟨z4, z5⟩ := geq_t HY.out.1 HLO.out.1 HY.out.2 HLO.out.2 hlaw.1
  obtain ⟨z6, z7⟩ := leq_t HY.out.1 HHI.out.1 HY.out.2 HHI.out.2 hlaw.2
  have HYE := Aside0.mk hy
  have HNX := Aside0.mk nx
  clear hlaw hy nx
  go_wp2_with (first | ((with_reducible refine gate_dst (N := 57) rfl ?_); refine evg (by rfl) (.float .f32 x) ?hr ?_; (case hr => first | (go_simp; done) | (go_simp; rfl))) | (go_at_call 22; (with_reducible refine (HC1.out _ (Below.refl _ _)).mono ?_); rintro e w5 ⟨rfl, hb⟩; have B5 := Aside0.mk hb; clear hb hcx) | ((with_reducible refine gate_dst (N := 74) rfl ?_); refine evg (by rfl) (.float .f32 y) ?hr ?_; (case hr => first | (go_simp; done) | (go_simp; rfl))))
  clear z1 z2 z3 z4 z5 z6 z7
  have HHB := Aside0.mk HB.out
  clear HB
  generalize wr = W1 at *
  go_loopg [12] m (fun kx s12 wr => ∃ j : Nat, s12 = .int .i64 (j : Int) ∧ j ≤ m ∧ m - j ≤ kx ∧ Aside0 (Below W1.heap.size W1 wr))
  case atStart => exact ⟨0, rfl, Nat.zero_le _, by omega, B5⟩
  case round =>
   obtain ⟨j, rfl, j1, j2, HBJ⟩ := hrel
   have hs := HSZ.out
   by_cases hjn : j < m
   case neg =>
    obtain rfl : j = m := by omega
    have dd : decide ((j : Int) < (j : Int)) = false := decide_eq_false (by omega)
    clear hs hjn
    go_wp2
    go_roundg (j - (i + 1))
    case measure => have := HIN.out; omega
    case rel => exact ⟨i + 1, by first | rfl | (congr 1; omega), HIN.out, by omega, ⟨below_step HHB.out HBJ.out⟩⟩
   have HJN := Aside0.mk hjn
   have e1j : decide ((0 : Int) ≤ (j : Int)) = true := decide_eq_true (by omega)
   have e2j : decide ((j : Int) < (m : Int)) = true := decide_eq_true (by omega)
   have e5j : ((0 : Int) ≤ (j : Int)) = True := eq_true (by omega)
   have e6j : ((j : Int) < (m : Int)) = True := eq_true (by omega)
   have e7j : (j < m) = True := eq_true (by omega)
   have wi : IntKind.i64.wrap ((j : Int) + 1) = ((j + 1 : Nat) : Int) := by rw [show IntKind.i64.wrap ((j : Int) + 1) = wrap64 ((j : Int) + 1) from i64_w _, w64 (by omega) (by omega)]; omega
   have hcx := (HXW.out wr HBJ.out).at2 j (by have := HM.out; omega)
   obtain ⟨x2, hx2⟩ : ∃ x, gt xs j = x := ⟨_, rfl⟩
   have HX2 : Aside0 (x2 < 4294967296) := ⟨by rw [← hx2]; exact HG.out j⟩
   rw [hx2] at hcx
   obtain ⟨y2, hy2⟩ : ∃ y, F x2 = y := ⟨_, rfl⟩
   have HC2 : Aside0 (∀ W, Below wr.heap.size wr W → Calls Try.prog 22 #[.pointer (some ⟨gc, 0, none⟩), .int .u32 (x2 : Int)] W fun e w' => e = .returned (.int .u32 (y2 : Int)) ∧ Below W.heap.size W w') := ⟨fun W hb => by
    have := HCH.out W gc gs x2 HX2.out (HCW.out W (below_step HBJ.out hb))
    rwa [hy2] at this⟩
   have hs1 := HJN.out
   clear hs hjn hx2
   by_cases hle : isnan x2 = false ∧ pz x ≤ pz x2
   ·obtain ⟨z1, z2⟩ := leq_t HXL.out HX2.out HNX.out hle.1 hle.2
    have hY2 : y2 < 4294967296 ∧ isnan y2 = false := by rw [← hy2]; exact ⟨HRF.out.word x2 HX2.out, HRF.out.nn x2 HX2.out hle.1⟩
    have hmo := HRF.out.mono x x2 HXL.out HX2.out HNX.out hle.1 hle.2
    rw [HYE.out, hy2] at hmo
    obtain ⟨z3, z4⟩ := leq_t HY.out.1 hY2.1 HY.out.2 hY2.2 hmo
    clear hle hY2 hmo hy2 hs1
    go_wp2_with (first | ((with_reducible refine gate_dst (N := 95) rfl ?_); refine evg (by rfl) (.float .f32 x2) ?hr ?_; (case hr => first | (go_simp; done) | (go_simp; rfl))) | (go_at_call 22; (with_reducible refine (HC2.out _ (Below.refl _ _)).mono ?_); rintro e w6 ⟨rfl, hb⟩; have B6 := Aside0.mk hb; clear hb hcx) | ((with_reducible refine gate_dst (N := 107) rfl ?_); refine evg (by rfl) (.float .f32 y2) ?hr ?_; (case hr => first | (go_simp; done) | (go_simp; rfl))))
    go_roundg (m - (j + 1))
    case measure => have := HJN.out; omega
    case rel => exact ⟨j + 1, by first | rfl | (congr 1; omega), HJN.out, by omega, ⟨below_step HBJ.out B6.out⟩⟩
   ·have hz : (FloatKind.f32.format.order x x2 == some .lt || FloatKind.f32.format.order x x2 == some .eq) = false ∧ (FloatKind.f32.format.order x x2 = some .lt ∨ FloatKind.f32.format.order x x2 = some .eq) = False := by
     cases n2 : isnan x2
     ·exact leq_f HXL.out HX2.out HNX.out n2 (by have : ¬ (isnan x2 = false ∧ pz x ≤ pz x2) := hle; rw [n2] at this; simp at this; omega)
     ·exact leq_nan HXL.out HX2.out (.inr n2)
    obtain ⟨z1, z2⟩ := hz
    clear hle hy2 hs1
    go_wp2_with (first | ((with_reducible refine gate_dst (N := 95) rfl ?_); refine evg (by rfl) (.float .f32 x2) ?hr ?_; (case hr => first | (go_simp; done) | (go_simp; rfl))))
    go_roundg (m - (j + 1))
    case measure => have := HJN.out; omega
    case rel => exact ⟨j + 1, by first | rfl | (congr 1; omega), HJN.out, by omega, HBJ⟩
set_option maxHeartbeats 4000000 in
theorem curveRises (A1 : Option Addr) (c1 : Nat) (ls : List (List (Nat × Nat))) (A2 : Option Addr) (c2 : Nat) (xs : List Nat) (w : World) (hK : KsA w A1 ls) (hc1 : ls.length ≤ c1) (hl : ∀ l ∈ ls, kok l) (hX : Ws w A2 xs) (hc2 : xs.length ≤ c2) (hx : ∀ i, gt xs i < 4294967296) :
    Calls Try.prog 6 #[.slice A1 ls.length c1, .slice A2 xs.length c2] w fun e w' => e = .returned (.bool true) ∧ Below w.heap.size w w' := by
 by_cases g1 : 60 < xs.length
 ·obtain ⟨m, hmm⟩ : ∃ n, xs.length = n := ⟨_, rfl⟩
  rw [hmm] at g1 ⊢
  have d1 : decide ((m : Int) > 60) = true := decide_eq_true (by omega)
  have d2 : (60 < m) = True := eq_true g1
  clear hK hc1 hl hX hc2 hx g1 hmm
  go_enter Try.func6, Try.ntmps6
  go_wp2_with ((go_at_call 10; (with_reducible refine (known_calls _).mono ?_); rintro e w1 ⟨rfl, hb⟩; have B1 := Aside0.mk hb; clear hb))
  go_ret
  exact ⟨rfl, B1.out⟩
 cases hm : mayB ls
 ·obtain ⟨m, hmm⟩ : ∃ n, xs.length = n := ⟨_, rfl⟩
  have HMAY : Aside0 (∀ W, Below w.heap.size w W → Calls Try.prog 19 #[.slice A1 ls.length c1] W fun e w' => e = .returned (.bool false) ∧ Below W.heap.size W w') := ⟨fun W hb => by
   have := may_calls A1 c1 ls hl W (hK.below hb)
   rwa [hm] at this⟩
  rw [hmm] at g1 ⊢
  have d1 : decide ((m : Int) > 60) = false := decide_eq_false (by omega)
  have d2 : (60 < m) = False := eq_false g1
  clear hK hc1 hl hX hc2 hx g1 hmm hm
  go_enter Try.func6, Try.ntmps6
  go_wp2_with (first | (go_at_call 10; (with_reducible refine (known_calls _).mono ?_); rintro e w1 ⟨rfl, hb⟩; have B1 := Aside0.mk hb; clear hb) | (go_at_call 19; (with_reducible refine (HMAY.out w1 B1.out).mono ?_); rintro e w2 ⟨rfl, hb⟩; have B2 := Aside0.mk (below_step B1.out hb); clear hb))
  go_ret
  exact ⟨rfl, B2.out⟩
 ·exact curveRises_main A1 c1 ls A2 c2 xs w hK hc1 hl hX hc2 hx g1 hm
end Go.Proofs.Ytkicfaboibfbpaa.A
end
section
-- PRINTED WORDS (module Derived/Print/Sized.lean): go-gate-2's, for the rows of laws over slices: an AI agent of Go's test side, Tue Nov 17 2026; no person has read it. Lean checks it.
namespace Go.Proofs.YtkicfaboibfbpaaW.PrintWords
open Go.ChangeShapes Go.WideShapes
/-- A row's slice of whole numbers is no longer than its weight allows. -/
theorem sized_ints {H : Type} {enc : TypeId × Value → H} {P : Program} {W : World} {base : Nat} {spare : Nat → Bool} {held : Bool} {t e : TypeId} {k : IntKind} {a : Option Addr} {len cap : Nat} {d : DataW H} {ps : List MemPlace} {ts : List TypeId} {ds : List (DataW H)} {j : Nat}
    (hsz : (DataW.weightsEach P ts ds).all (· ≤ reachBytes) = true) (ht : ts[j]? = some t) (hd : ds[j]? = some d) (hu : P.underlying t = some (.slice e)) (he : P.underlying e = some (.int k)) (hc : P.cellsOf e = 1) {B : Nat} (hB : P.bytesOf e = B)
    (h : DataW.Trod enc P W base spare held t (.slice a len cap) d ps) : len * B ≤ 140737488351232 := by
 obtain ⟨fuel, hf⟩ := h
 rcases open_ints hu he hc hf with ⟨hcs, _⟩ | ⟨x, l, c, zs, hcs, _, hl, _, hz, hx, _, _⟩
 ·simp [Value.cells] at hcs
  obtain ⟨rfl, rfl, rfl⟩ := hcs
  simp
 ·simp [Value.cells] at hcs
  obtain ⟨rfl, rfl, rfl⟩ := hcs
  obtain ⟨hx, _⟩ := Prod.mk.inj hx
  subst hx
  have z := sized_slice hsz ht hd hu
  rw [hB] at z
  have hl2 : len ≤ zs.length := by
   rw [hz]
   split
   ·exact hl
   ·exact Nat.le_refl _
  have h1 : (lits (H := H) k (zs.take len)).length + (lits (H := H) k (zs.drop len)).length = zs.length := by
   simp [lits]
   omega
  rw [h1] at z
  exact Nat.le_trans (Nat.mul_le_mul_right _ hl2) z
end Go.Proofs.YtkicfaboibfbpaaW.PrintWords
end
section
set_option linter.unusedVariables false
set_option linter.unusedSimpArgs false
namespace Go.Proofs.Ytkicfaboibfbpaa.A
open Go.RowKit Go.ChangeShapes Go.WideShapes Go.ChangeAt Go.Proofs.YtkicfaboibfbpaaW.PrintWords Go.Proofs.YtkicfaboibfbpaaW.PrintLast Go.Proofs.YtkicfaboibfbpaaW.PrintMore Go.Proofs.Ytkicfaboibfbpaa.PCurveAts
theorem list_choose {α : Type} {P : Nat → α → Prop} : ∀ (n : Nat), (∀ i, i < n → ∃ a, P i a) → ∃ l : List α, l.length = n ∧ ∀ i a, l[i]? = some a → P i a := by
 intro n
 induction n with
 | zero => intro _; exact ⟨[], rfl, fun i a h => by simp at h⟩
 | succ n ih =>
  intro h
  obtain ⟨l, hl, hp⟩ := ih (fun i hi => h i (by omega))
  obtain ⟨a, ha⟩ := h n (by omega)
  refine ⟨l ++ [a], by simp [hl], fun i b hb => ?_⟩
  by_cases hi : i < n
  ·rw [List.getElem?_append_left (by omega)] at hb; exact hp i b hb
  ·rw [List.getElem?_append_right (by omega)] at hb
   have : i - l.length = 0 := by
    have := (List.getElem?_eq_some_iff.1 hb).1
    simp at this; omega
   rw [this] at hb
   simp at hb
   subst hb
   rw [show i = n by omega]; exact ha
theorem cells30 : Try.prog.cellsOf 30 = 1 := by kernel_rfl
theorem cells43 : Try.prog.cellsOf 43 = 2 := by kernel_rfl
theorem cells23 : Try.prog.cellsOf 23 = 1 := by kernel_rfl
section
variable {H : Type} {enc : TypeId × Value → H} {W : World}
theorem word_of_trod {fuel : Nat} {v : Value} {y : DataW H × List MemPlace} (h : DataW.trod enc Try.prog W 0 (fun _ => true) true fuel 30 [v] = some y) : ∃ n : Nat, v = .int .u32 (n : Int) ∧ n < 4294967296 := by
 obtain ⟨s, e0, rfl, hw⟩ := DataW.trod_int Try.underlying30 h
 injection e0 with e0 _
 obtain ⟨n, rfl, hn⟩ := wf32 hw
 exact ⟨n, e0, hn⟩
theorem knot_open {fuel : Nat} {cs : List Value} {y : DataW H × List MemPlace} (h : DataW.trod enc Try.prog W 0 (fun _ => true) true fuel 43 cs = some y) :
    ∃ k : Nat × Nat, cs = [.int .u32 (k.1 : Int), .int .u32 (k.2 : Int)] ∧ k.1 < 4294967296 ∧ k.2 < 4294967296 := by
 obtain ⟨y0, y1, n, rfl, hlen, h0, h1⟩ := trod_struct2 Try.underlying43 h
 simp only at h0 h1
 rw [cells30] at h0 h1
 have hc2 : cs.length = 2 := hlen.trans cells43
 obtain ⟨v0, v1, rfl⟩ : ∃ a b, cs = [a, b] := by
  match cs, hc2 with
  | [a, b], _ => exact ⟨a, b, rfl⟩
 have h0 : DataW.trod enc Try.prog W 0 (fun _ => true) true n 30 [v0] = some y0 := h0
 have h1 : DataW.trod enc Try.prog W 0 (fun _ => true) true n 30 [v1] = some y1 := h1
 obtain ⟨a, rfl, ha⟩ := word_of_trod h0
 obtain ⟨b, rfl, hb⟩ := word_of_trod h1
 exact ⟨(a, b), rfl, ha, hb⟩
theorem knots_open {fuel : Nat} {a : Option Addr} {len cap : Nat} {y : DataW H × List MemPlace} (h : DataW.trod enc Try.prog W 0 (fun _ => true) true fuel 23 [.slice a len cap] = some y) :
    ∃ l : List (Nat × Nat), l.length = len ∧ len ≤ cap ∧ Kn W a l ∧ kok l := by
 rcases Go.Deep.open_slice Try.underlying23 h with ⟨hcs, rfl⟩ | ⟨ad, len', cap', m, n, D, Pl, hcs, _, hl, hm, rfl, rfl, hel⟩
 ·injection hcs with hcs _
  injection hcs with e1 e2 e3
  subst e1 e2 e3
  exact ⟨[], rfl, Nat.le_refl _, ⟨rfl, by decide, fun h => absurd h (by decide)⟩, fun k hk => absurd hk (by simp)⟩
 injection hcs with hcs _
 injection hcs with e1 e2 e3
 subst e1 e2 e3
 obtain ⟨l, hll, hp⟩ := list_choose (α := Nat × Nat) (P := fun i k => ∃ cs' : List Value, W.cells? 0 (ad.add (i * 2)) 2 = some cs' ∧ cs' = [.int .u32 (k.1 : Int), .int .u32 (k.2 : Int)] ∧ k.1 < 4294967296 ∧ k.2 < 4294967296) len (fun i hi => by
  obtain ⟨cs', h1, h2⟩ := hel i (by show i < cap; omega)
  rw [cells43] at h1
  obtain ⟨k, h3, h4⟩ := knot_open h2
  exact ⟨k, cs', h1, h3, h4⟩)
 have hcap : cap ≤ 9223372036854775807 := hm
 subst hll
 refine ⟨l, rfl, hl, ⟨by rw [List.length_map], by omega, fun _ => ⟨ad, rfl, fun j p hj => ?_⟩⟩, fun k hk => ?_⟩
 ·rw [List.getElem?_map] at hj
  cases hlj : l[j]? with
  | none => rw [hlj] at hj; cases hj
  | some k =>
   rw [hlj] at hj
   obtain rfl := Option.some.inj hj
   obtain ⟨cs', h1, rfl, _⟩ := hp j k hlj
   have hc := (World.cells?_some h1).2.2
   refine ⟨_, rfl, k43.K_of_M (k43_mkM W 0 (fun _ => True) (kI k)), fun i u hu => ?_⟩
   match i, hu with
   | 0, hu => exact (hc 0 (by omega)).trans hu
   | 1, hu => exact ((congrArg W.cell? (Addr.add_add ad (j * 2) 1).symm).trans (hc 1 (by omega))).trans hu
 ·obtain ⟨j, hj, rfl⟩ := List.mem_iff_getElem.mp hk
  obtain ⟨_, _, _, h3⟩ := hp j _ (List.getElem?_eq_getElem hj)
  exact h3
theorem knotss_open {fuel : Nat} {a : Option Addr} {len cap : Nat} {y : DataW H × List MemPlace} (h : DataW.trod enc Try.prog W 0 (fun _ => true) true fuel 29 [.slice a len cap] = some y) :
    ∃ ls : List (List (Nat × Nat)), ls.length = len ∧ len ≤ cap ∧ KsA W a ls ∧ ∀ l ∈ ls, kok l := by
 rcases Go.Deep.open_slice Try.underlying29 h with ⟨hcs, rfl⟩ | ⟨ad, len', cap', m, n, D, Pl, hcs, _, hl, hm, rfl, rfl, hel⟩
 ·injection hcs with hcs _
  injection hcs with e1 e2 e3
  subst e1 e2 e3
  exact ⟨[], rfl, Nat.le_refl _, ⟨[], rfl, Kd.C_nil _ _, fun i hi => absurd hi (by simp)⟩, fun k hk => absurd hk (by simp)⟩
 injection hcs with hcs _
 injection hcs with e1 e2 e3
 subst e1 e2 e3
 obtain ⟨l, hll, hp⟩ := list_choose (α := Hd × List (Nat × Nat)) (P := fun i p => ∃ cs' : List Value, W.cells? 0 (ad.add (i * 1)) 1 = some cs' ∧ cs' = [.slice p.1.1 p.1.2.1 p.1.2.2] ∧ p.1.2.1 = p.2.length ∧ p.2.length ≤ p.1.2.2 ∧ Kn W p.1.1 p.2 ∧ kok p.2) len (fun i hi => by
  obtain ⟨cs', h1, h2⟩ := hel i (by show i < cap; omega)
  rw [cells23] at h1
  have h1' := h1
  obtain ⟨A, n2, c2, rfl⟩ := Go.Joins.slice_form Try.underlying23 h2
  obtain ⟨l, rfl, h4, h5, h6⟩ := knots_open h2
  exact ⟨((A, l.length, c2), l), _, h1', rfl, rfl, h4, h5, h6⟩)
 have hcap : cap ≤ 9223372036854775807 := hm
 subst hll
 refine ⟨l.map (·.2), by simp, by simpa using hl, ⟨l.map (·.1), by simp, Kd.C_of_reads (d := (none, 0, 0)) ⟨by simp, by simp; omega, fun _ => ⟨ad, rfl, fun j hj => ?_⟩⟩, fun i hi => ?_⟩, fun k hk => ?_⟩
 ·have hj' : j < l.length := by simpa using hj
  obtain ⟨cs', h1, rfl, _⟩ := hp j _ (List.getElem?_eq_getElem hj')
  have hc := (World.cells?_some h1).2.2 0 (by omega)
  rw [Nat.mul_one, Addr.add_zero'] at hc
  rw [List.getD_eq_getElem?_getD, List.getElem?_map, List.getElem?_eq_getElem hj']
  simpa using hc
 ·have hi' : i < l.length := by simpa using hi
  obtain ⟨cs', _, _, h3, h4, h5, _⟩ := hp i _ (List.getElem?_eq_getElem hi')
  rw [List.getD_eq_getElem?_getD, List.getD_eq_getElem?_getD, List.getElem?_map, List.getElem?_map, List.getElem?_eq_getElem hi']
  exact ⟨h3, h4, h5⟩
 ·obtain ⟨p, hp', rfl⟩ := List.mem_map.mp hk
  obtain ⟨j, hj, rfl⟩ := List.mem_iff_getElem.mp hp'
  obtain ⟨_, _, _, _, _, _, h3⟩ := hp j _ (List.getElem?_eq_getElem hj)
  exact h3
end
end Go.Proofs.Ytkicfaboibfbpaa.A
end
