import Derived.Test.YtkicfaboibfbpaaZ3
import Derived.ChangeSlices
import Derived.Deep.Slices
import Derived.Lib.SmallJoins
import Derived.SizedLaws
import Derived.Test.YtkicfaboibfbpaaRows
section
set_option linter.unusedVariables false
set_option linter.unusedSimpArgs false
namespace Go.Proofs.Ytkicfaboibfbpaa.A
open Go.RowKit Go.Proofs.YtkicfaboibfbpaaW.PrintWords Go.Proofs.YtkicfaboibfbpaaW.PrintLast Go.Proofs.YtkicfaboibfbpaaW.PrintMore Go.Proofs.Ytkicfaboibfbpaa.PCurveAts
theorem NewC.lower {w : World} {b b' g cb : Nat} {B : Option Addr} {l : List (Nat × Nat)} (h : NewC w b g B cb l) (hb : b' ≤ b) : NewC w b' g B cb l := ⟨Nat.le_trans hb h.1, h.2.1, h.2.2.lower hb⟩
theorem PR.as {w : World} {b : Nat} {v : Value} {gs : List Nat} (h : PR w b v gs) : ∃ A n c, v = .slice A n c := by
 obtain ⟨A, c, e⟩ := Kd.R_slice h
 exact ⟨A, _, c, e⟩
theorem PR.len {w : World} {b n c : Nat} {A : Option Addr} {gs : List Nat} (h : PR w b (.slice A n c) gs) : n = gs.length ∧ n ≤ c ∧ pk.C w A gs.length gs := Kd.R_reads' h
theorem take_snoc {α : Type} {ls : List α} {i : Nat} {d : α} (h : i < ls.length) : ls.take (i + 1) = ls.take i ++ [ls.getD i d] := by
 rw [List.take_add_one, List.getD_eq_getElem?_getD, List.getElem?_eq_getElem h]; rfl
theorem fin_F32 {s : Nat} {z : Int} (h : F32 s z) : fin s = true := by
 have h1 := h.ok
 have hs := h1.2
 obtain ⟨a, r, rfl, hr, _⟩ := h
 have hp := pz_word a (r := r) (by have := Ieee.Format.infRung_lt Ieee.single; omega)
 have e : Ieee.single.infRung = 2139095040 := by decide
 rw [e] at hr
 unfold fin
 refine decide_eq_true (fun h5 => ?_)
 unfold pz at hp
 unfold sg at hp
 cases a
 ·simp only [Bool.false_eq_true, if_false] at hp
  split at hp <;> omega
 ·simp only [if_true] at hp
  split at hp <;> omega
theorem val_chk {l : List (Nat × Nat)} (h : Val l) : chk l = 0 := by
 have two := h.two
 have most := h.most
 refine chk_0 (by omega) (fun i hi => ?_) h.ris
 obtain ⟨⟨y, h1⟩, ⟨z, h2⟩⟩ := h.fin i hi
 exact ⟨fin_F32 h1, fin_F32 h2⟩
set_option maxHeartbeats 8000000 in
theorem some_calls (A : Option Addr) (c : Nat) (ls : List (List (Nat × Nat))) (hv : ∀ l ∈ ls, Val l) (h18 : 1 ≤ ls.length ∧ ls.length ≤ 8) (w : World) (hK : KsA w A ls) :
    Calls Try.prog 20 #[.slice A ls.length c] w fun e w' => ∃ gc gs, e = .returned (.pointer (some ⟨gc, 0, none⟩)) ∧ ChB w' gc gs ls ∧ Below w.heap.size w w' := by
 obtain ⟨n, hn⟩ : ∃ n, ls.length = n := ⟨_, rfl⟩
 rw [hn] at h18 ⊢
 have HK : Aside0 (KsA w A ls) := ⟨hK⟩
 have HVV := Aside0.mk hv
 have HN := Aside0.mk hn
 have H8 := Aside0.mk h18
 clear hK hv hn h18
 go_enter Try.func20, Try.ntmps20
 go_wp2
 go_loopg [3, 4] n (fun kx s3 s4 wr => ∃ (i : Nat) (Av : Option Addr) (nv cv : Nat) (gs : List Nat), s4 = .int .i64 (i : Int) ∧ s3 = .slice Av nv cv ∧ i ≤ n ∧ n - i ≤ kx ∧ Aside0 (Below w.heap.size w wr) ∧ Aside0 (PR wr w.heap.size (.slice Av nv cv) gs) ∧ Aside0 (Cvn wr w.heap.size gs (ls.take i)) ∧ Aside0 (gs.length = i))
 case atStart => exact ⟨0, none, 0, 0, [], rfl, rfl, Nat.zero_le _, by omega, ⟨Below.refl _ _⟩, ⟨Kd.R_nil _ _ _ _ _⟩, ⟨Cvn.nil _ _⟩, ⟨rfl⟩⟩
 case round =>
  obtain ⟨i, Av, nv, cv, gs, rfl, rfl, i1, i2, HB, HV, HN2, HGL⟩ := hrel
  have h8 := H8.out
  by_cases hin : i < n
  ·have hil : i < ls.length := by have := HN.out; omega
   have e1i : decide ((0 : Int) ≤ (i : Int)) = true := decide_eq_true (by omega)
   have e2i : decide ((i : Int) < (n : Int)) = true := decide_eq_true (by omega)
   have e5i : ((0 : Int) ≤ (i : Int)) = True := eq_true (by omega)
   have e6i : ((i : Int) < (n : Int)) = True := eq_true (by omega)
   have e7i : (i < n) = True := eq_true (by omega)
   have wi : IntKind.i64.wrap ((i : Int) + 1) = ((i + 1 : Nat) : Int) := by rw [show IntKind.i64.wrap ((i : Int) + 1) = wrap64 ((i : Int) + 1) from i64_w _, w64 (by omega) (by omega)]; omega
   obtain ⟨ad, Ai, ci, rfl, hp, hci, hKi⟩ := (HK.out.below HB.out).at_ i hil
   have HVI := Aside0.mk (HVV.out _ (getD_mem hil []))
   have HC := Aside0.mk hci
   obtain ⟨li, hli⟩ : ∃ u, ls.getD i [] = u := ⟨_, rfl⟩
   rw [hli] at hp HVI HC hKi
   have HKC0 : k43.C wr Ai li.length (li.map kI) := hKi
   have h64 := HVI.out.most
   have HIN := Aside0.mk hin
   have HLI := Aside0.mk hli
   have HIL := Aside0.mk hil
   have HNEW : Aside0 (∀ A c w, Kn w A li → li.length ≤ c → Calls Try.prog 31 #[.slice A li.length c] w fun e w' => ∃ g B cb, e = .returned (.tuple #[.pointer (some ⟨g, 0, none⟩), .int .i64 0]) ∧ NewC w' w.heap.size g B cb li ∧ Below w.heap.size w w') := ⟨fun A c w h1 h2 => New_ok HVI.out.ok (by omega) h2 (val_chk HVI.out) w h1⟩
   obtain ⟨m, hm⟩ : ∃ m, li.length = m := ⟨_, rfl⟩
   rw [hm] at hp HC HKC0 HNEW h64
   have HKC := Aside0.mk HKC0
   have HMM := Aside0.mk hm
   have HLE : Aside0 ((([] : List S43).length + m) * 8 ≤ 140737488355328) := ⟨by simp only [List.length_nil]; omega⟩
   have HLG : Aside0 ((gs.length + 1) * 8 ≤ 140737488355328) := ⟨by have := HGL.out; omega⟩
   clear h8 hin hil hKi hci hli hm h64 HKC0
   go_wp2_with (first | ((with_reducible refine gate_dst (N := 20) rfl ?_); refine Kd.R_append_rows k43 (W := wr) (Rr := k43.K wr) (w0 := wr) wr.heap.size rfl (.const (.slice none 0 0)) (.tmp 19) 23 43 (.agg #[.int .u32 0, .int .u32 0]) 8 rfl Try.underlying23 info43 rfl (by decide) (by decide) (.slice none 0 0) [] (li.map kI) Ai m ci (fun _ => True) (fun _ => False) rfl rfl (KR.nil wr _) HKC.out (fun x cs h => k43_any _ _ _ _ _ _ h) (fun _ h => h.elim) (fun _ _ => trivial) (Below.refl _ _) (Nat.le_refl _) HLE.out ?_; intro v1 w1 hR hB hg hat; rw [List.nil_append] at hR; have R1 : Aside0 (KR w1 wr.heap.size v1 li) := ⟨hR⟩; have B1 := Aside0.mk hB; obtain ⟨A1, n1, c1, rfl, hn1⟩ := R1.out.as; obtain rfl : m = n1 := (hn1.trans HMM.out).symm; have R1K : Aside0 (Kn w1 A1 li) := ⟨R1.out.kn.2.2⟩; have R1C : Aside0 (m ≤ c1) := ⟨R1.out.kn.2.1⟩; have V1 : Aside0 (PR w1 w.heap.size (.slice Av nv cv) gs) := ⟨Kd.R_below HV.out hB⟩; have N1 := Aside0.mk (HN2.out.below hB); clear hR hB hg hat hn1) | (go_at_call 31; (with_reducible refine (HNEW.out A1 c1 w1 R1K.out R1C.out).mono ?_); rintro e w2 ⟨g, B, cb, rfl, hC, hb⟩; have C2 : Aside0 (NewC w2 w.heap.size g B cb li) := ⟨NewC.lower hC (below_step HB.out B1.out).size⟩; have B2 := Aside0.mk (below_step B1.out hb); have V2 : Aside0 (PR w2 w.heap.size (.slice Av nv cv) gs) := ⟨Kd.R_below V1.out hb⟩; have N2 := Aside0.mk (N1.out.below hb); clear hC hb) | ((with_reducible refine gate_builtin (b := .append) (xs := #[.tmp 30, .tmp 32]) rfl ?_); at_builtin; refine Kd.R_append pk (w0 := w) w.heap.size rfl (.tmp 30) (.tmp 32) 61 26 (.pointer none) 8 rfl Try.underlying61 info26 rfl (by decide) (by decide) (.slice Av nv cv) gs g [.pointer (some ⟨g, 0, none⟩)] (fun _ => True) (fun _ => False) rfl rfl rfl (fun _ h => h.elim) (fun _ _ => trivial) V2.out (below_step HB.out B2.out) (below_step HB.out B2.out).size HLG.out ?_; intro v9 w9 hR hB hg hat; have V9 : Aside0 (PR w9 w.heap.size v9 (gs ++ [g])) := ⟨hR⟩; have B9 := Aside0.mk hB; have N9 : Aside0 (Cvn w9 w.heap.size (gs ++ [g]) (ls.take (i + 1))) := ⟨by rw [take_snoc HIL.out, HLI.out]; exact (N2.out.snoc C2.out).grown V2.out hg⟩; clear hR hB hg hat; obtain ⟨A9, n9, c9, rfl⟩ := PR.as V9.out))
   go_roundg (n - (i + 1))
   case measure => have := HIN.out; omega
   case rel => exact ⟨i + 1, A9, n9, c9, gs ++ [g], by first | rfl | (congr 1; omega), rfl, HIN.out, by omega, B9, V9, N9, ⟨by have := HGL.out; simp; omega⟩⟩
  ·obtain rfl : i = n := by omega
   have dd : decide ((i : Int) < (i : Int)) = false := decide_eq_false (by omega)
   have hC := HN2.out
   rw [List.take_of_length_le (by have := HN.out; omega)] at hC
   have HCV : Aside0 (Cvn wr w.heap.size gs ls) := ⟨hC⟩
   obtain ⟨p1, p2, p3⟩ := HV.out.len
   have hg := HGL.out
   obtain rfl : nv = i := by omega
   have HJO : Aside0 (Calls Try.prog 32 #[.slice Av nv cv] wr fun e w' => ∃ gc B cb, e = .returned (.tuple #[.pointer (some ⟨gc, 0, none⟩), .int .i64 0]) ∧ ChN w' wr.heap.size gc B cb gs ∧ Below wr.heap.size wr w') := ⟨by
    have := Join_own Av cv gs (by omega) (by omega) wr p3
    rwa [← p1] at this⟩
   clear hC p1 p2 p3 hg hin h8
   go_wp2_with (go_at_call 32; refine HJO.out.mono ?_; rintro e w5 ⟨gc, B, cb, rfl, hC, hb⟩; have C5 := Aside0.mk hC; have B5 := Aside0.mk hb; clear hC hb)
   go_ret
   exact ⟨gc, gs, rfl, C5.out.chb (HCV.out.below B5.out).cvs, below_step HB.out B5.out⟩
set_option maxHeartbeats 4000000 in
theorem Words_t (A B : Option Addr) (c d : Nat) (xs : List Nat) (hn : xs.length < 4611686018427387904) (w : World) (hA : Ws w A xs) (hB : Ws w B xs) :
    Calls Try.prog 34 #[.slice A xs.length c, .slice B xs.length d] w fun e w' => e = .returned (.bool true) ∧ Below w.heap.size w w' := by
 obtain ⟨n, hl⟩ : ∃ n, xs.length = n := ⟨_, rfl⟩
 have HA : Aside0 (Ws w A xs) := ⟨hA⟩
 have HBB : Aside0 (Ws w B xs) := ⟨hB⟩
 have HL := Aside0.mk hl
 rw [hl] at hn ⊢
 have H8 := Aside0.mk hn
 have t0 : ((n : Int) != (n : Int)) = false := by rw [bne_eq_false_iff_eq]
 clear hA hB hl hn
 go_enter Try.func34, Try.ntmps34
 go_wp2
 go_loopg [5] n (fun kx s5 wr => ∃ i : Nat, s5 = .int .i64 (i : Int) ∧ i ≤ n ∧ n - i ≤ kx ∧ Aside0 (Below w.heap.size w wr))
 case atStart => exact ⟨0, rfl, Nat.zero_le _, by omega, ⟨Below.refl _ _⟩⟩
 case round =>
  obtain ⟨i, rfl, i1, i2, HB⟩ := hrel
  have h8 := H8.out
  by_cases hin : i < n
  ·have hil : i < xs.length := by have := HL.out; omega
   have e1i : decide ((0 : Int) ≤ (i : Int)) = true := decide_eq_true (by omega)
   have e2i : decide ((i : Int) < (n : Int)) = true := decide_eq_true (by omega)
   have e5i : ((0 : Int) ≤ (i : Int)) = True := eq_true (by omega)
   have e6i : ((i : Int) < (n : Int)) = True := eq_true (by omega)
   have e7i : (i < n) = True := eq_true (by omega)
   have wi : IntKind.i64.wrap ((i : Int) + 1) = ((i + 1 : Nat) : Int) := by rw [show IntKind.i64.wrap ((i : Int) + 1) = wrap64 ((i : Int) + 1) from i64_w _, w64 (by omega) (by omega)]; omega
   obtain ⟨a1, rfl, k1⟩ := (HA.out.below HB.out).at_ i hil
   obtain ⟨a2, rfl, k2⟩ := (HBB.out.below HB.out).at_ i hil
   have HIN := Aside0.mk hin
   have t1 : (((gt xs i : Nat) : Int) != ((gt xs i : Nat) : Int)) = false := by rw [bne_eq_false_iff_eq]
   have HK1 := Aside0.mk k1
   have HK2 := Aside0.mk k2
   have B_0 : Aside0 (Below wr.heap.size wr wr) := ⟨Below.refl _ _⟩
   clear hin hil h8 k1 k2
   go_wp2
   have B_1 : Aside0 (Below wr.heap.size wr wr.drew) := ⟨below_drew B_0.out⟩
   clear B_0
   refine start_ (n := 9) (S := fun w' => w'.cell? (a1.add i) = some (.int .u32 ((gt xs i : Nat) : Int)) ∧ w'.cell? (a2.add i) = some (.int .u32 ((gt xs i : Nat) : Int))) (ds := []) #[ff_,ff_,ff_,ff_,ff_,ff_,ff_,ff_,ff_] (by kernel_rfl) rfl rfl ⟨HK1.out, HK2.out⟩ (fun hHeld => ?_)
   generalize wr.drew = w1 at *
   refine pure_ (i := 0) (N := some 17) (v := ?_) (a' := ?_) #[tt_,ff_,ff_,ff_,ff_,ff_,ff_,ff_,ff_] rfl rfl (by kernel_rfl) (fun _ _ _ h => h) (Or.inl ⟨by rfl, ?_⟩) ?_ ?_
   rotate_left
   ·intro w'
    go_simp
    with_reducible rfl
   rotate_left
   ·simp only [Act.put, List.setIfInBounds_toArray, List.set_cons_zero, List.set_cons_succ, i64_w, i32_w]
    rfl
   refine pure_ (i := 1) (N := some 18) (v := ?_) (a' := ?_) #[tt_,tt_,ff_,ff_,ff_,ff_,ff_,ff_,ff_] rfl rfl (by kernel_rfl) (fun _ _ _ h => h) (Or.inl ⟨by rfl, ?_⟩) ?_ ?_
   rotate_left
   ·intro w'
    go_simp
    with_reducible rfl
   rotate_left
   ·simp only [Act.put, List.setIfInBounds_toArray, List.set_cons_zero, List.set_cons_succ, i64_w, i32_w]
    rfl
   refine pure_ (i := 2) (N := some 19) (v := ?_) (a' := ?_) #[tt_,tt_,tt_,ff_,ff_,ff_,ff_,ff_,ff_] rfl rfl (by kernel_rfl) (fun _ _ _ h => h) (Or.inl ⟨by rfl, ?_⟩) ?_ ?_
   rotate_left
   ·intro w'
    go_simp
    with_reducible rfl
   rotate_left
   ·simp only [Act.put, List.setIfInBounds_toArray, List.set_cons_zero, List.set_cons_succ, i64_w, i32_w]
    rfl
   refine pure_ (i := 4) (N := some 21) (v := ?_) (a' := ?_) #[tt_,tt_,tt_,ff_,tt_,ff_,ff_,ff_,ff_] rfl rfl (by kernel_rfl) (fun _ _ _ h => h) (Or.inl ⟨by rfl, ?_⟩) ?_ ?_
   rotate_left
   ·intro w'
    go_simp
    with_reducible rfl
   rotate_left
   ·simp only [Act.put, List.setIfInBounds_toArray, List.set_cons_zero, List.set_cons_succ, i64_w, i32_w]
    rfl
   refine pure_ (i := 5) (N := some 22) (v := ?_) (a' := ?_) #[tt_,tt_,tt_,ff_,tt_,tt_,ff_,ff_,ff_] rfl rfl (by kernel_rfl) (fun _ _ _ h => h) (Or.inl ⟨by rfl, ?_⟩) ?_ ?_
   rotate_left
   ·intro w'
    go_simp
    with_reducible rfl
   rotate_left
   ·simp only [Act.put, List.setIfInBounds_toArray, List.set_cons_zero, List.set_cons_succ, i64_w, i32_w]
    rfl
   refine pure_ (i := 6) (N := some 23) (v := ?_) (a' := ?_) #[tt_,tt_,tt_,ff_,tt_,tt_,tt_,ff_,ff_] rfl rfl (by kernel_rfl) (fun _ _ _ h => h) (Or.inl ⟨by rfl, ?_⟩) ?_ ?_
   rotate_left
   ·intro w'
    go_simp
    with_reducible rfl
   rotate_left
   ·simp only [Act.put, List.setIfInBounds_toArray, List.set_cons_zero, List.set_cons_succ, i64_w, i32_w]
    rfl
   refine take_ (i := 3) (N := some 20) (v := ?_) (a' := ?_) #[tt_,tt_,tt_,tt_,tt_,tt_,tt_,ff_,ff_] rfl rfl (by kernel_rfl) (fun _ _ _ h => h) (Or.inl ⟨by rfl, ?_⟩) hHeld ?_ ?_
   rotate_left
   ·rintro w' ⟨s0, s1⟩
    go_simp
    with_reducible rfl
   rotate_left
   ·simp only [Act.put, List.setIfInBounds_toArray, List.set_cons_zero, List.set_cons_succ, i64_w, i32_w]
    rfl
   refine take_ (i := 7) (N := some 24) (v := ?_) (a' := ?_) #[tt_,tt_,tt_,tt_,tt_,tt_,tt_,tt_,ff_] rfl rfl (by kernel_rfl) (fun _ _ _ h => h) (Or.inl ⟨by rfl, ?_⟩) hHeld ?_ ?_
   rotate_left
   ·rintro w' ⟨s0, s1⟩
    go_simp
    with_reducible rfl
   rotate_left
   ·simp only [Act.put, List.setIfInBounds_toArray, List.set_cons_zero, List.set_cons_succ, i64_w, i32_w]
    rfl
   refine pure_ (i := 8) (N := some 25) (v := ?_) (a' := ?_) #[tt_,tt_,tt_,tt_,tt_,tt_,tt_,tt_,tt_] rfl rfl (by kernel_rfl) (fun _ _ _ h => h) (Or.inl ⟨by rfl, ?_⟩) ?_ ?_
   rotate_left
   ·intro w'
    go_simp
    with_reducible rfl
   rotate_left
   ·simp only [Act.put, List.setIfInBounds_toArray, List.set_cons_zero, List.set_cons_succ, i64_w, i32_w]
    rfl
   refine done_ (by kernel_rfl) ?_
   go_wp2
   go_roundg (n - (i + 1))
   case measure => have := HIN.out; omega
   case rel => exact ⟨i + 1, by first | rfl | (congr 1; omega), HIN.out, by omega, ⟨below_step HB.out B_1.out⟩⟩
  ·obtain rfl : i = n := by omega
   have dd : decide ((i : Int) < (i : Int)) = false := decide_eq_false (by omega)
   clear hin h8
   go_wp2
   go_ret
   exact ⟨rfl, HB.out⟩
theorem info30 : (Try.prog.info? 30).map (fun i => (i.zero, i.size, i.bytes)) = some (some (.int .u32 0), 1, 4) := by kernel_rfl
/-- an own row of words -/
def WR (w : World) (b : Nat) (v : Value) (ys : List Nat) : Prop := (nat .u32).R 30 w b (fun _ => True) v ys
theorem WR.as {w : World} {b : Nat} {v : Value} {gs : List Nat} (h : WR w b v gs) : ∃ A n c, v = .slice A n c ∧ n = gs.length := by
 obtain ⟨A, c, e⟩ := Kd.R_slice h
 exact ⟨A, _, c, e, rfl⟩
theorem WR.len {w : World} {b n c : Nat} {A : Option Addr} {gs : List Nat} (h : WR w b (.slice A n c) gs) : n = gs.length ∧ n ≤ c ∧ Ws w A gs := Kd.R_reads' h
theorem WR.below {w w1 : World} {b : Nat} {v : Value} {gs : List Nat} (h : WR w b v gs) (hb : Below w.heap.size w w1) : WR w1 b v gs := Kd.R_below h hb
set_option maxHeartbeats 8000000 in
theorem Map_calls (gc : Nat) (F : Nat → Nat) (A : Option Addr) (c : Nat) (xs : List Nat) (hn : xs.length < 1000) (hx : ∀ i, gt xs i < 4294967296) (w : World) (hA : Ws w A xs)
    (hF : ∀ (W : World) (x : Nat), x < 4294967296 → Below w.heap.size w W → Calls Try.prog 22 #[.pointer (some ⟨gc, 0, none⟩), .int .u32 (x : Int)] W fun e w' => e = .returned (.int .u32 ((F x : Nat) : Int)) ∧ Below W.heap.size W w') :
    Calls Try.prog 33 #[.func (.func 22) #[.pointer (some ⟨gc, 0, none⟩)] #[], .slice A xs.length c] w fun e w' => ∃ B n cb, e = .returned (.slice B n cb) ∧ WR w' w.heap.size (.slice B n cb) (xs.map F) ∧ Below w.heap.size w w' := by
 obtain ⟨n, hl⟩ : ∃ n, xs.length = n := ⟨_, rfl⟩
 have HA : Aside0 (Ws w A xs) := ⟨hA⟩
 have HFF := Aside0.mk hF
 have HX := Aside0.mk hx
 have HL := Aside0.mk hl
 rw [hl] at hn ⊢
 have H8 := Aside0.mk hn
 clear hA hF hx hl hn
 go_enter Try.func33, Try.ntmps33
 go_wp2
 go_loopg [5, 10] n (fun kx s5 s10 wr => ∃ (i : Nat) (Av : Option Addr) (nv cv : Nat), s10 = .int .i64 (i : Int) ∧ s5 = .slice Av nv cv ∧ i ≤ n ∧ n - i ≤ kx ∧ Aside0 (Below w.heap.size w wr) ∧ Aside0 (WR wr w.heap.size (.slice Av nv cv) ((xs.take i).map F)))
 case atStart => exact ⟨0, none, 0, 0, rfl, rfl, Nat.zero_le _, by omega, ⟨Below.refl _ _⟩, ⟨Kd.R_nil _ _ _ _ _⟩⟩
 case round =>
  obtain ⟨i, Av, nv, cv, rfl, rfl, i1, i2, HB, HV⟩ := hrel
  have h8 := H8.out
  by_cases hin : i < n
  ·have hil : i < xs.length := by have := HL.out; omega
   have e1i : decide ((0 : Int) ≤ (i : Int)) = true := decide_eq_true (by omega)
   have e2i : decide ((i : Int) < (n : Int)) = true := decide_eq_true (by omega)
   have e5i : ((0 : Int) ≤ (i : Int)) = True := eq_true (by omega)
   have e6i : ((i : Int) < (n : Int)) = True := eq_true (by omega)
   have e7i : (i < n) = True := eq_true (by omega)
   have wi : IntKind.i64.wrap ((i : Int) + 1) = ((i + 1 : Nat) : Int) := by rw [show IntKind.i64.wrap ((i : Int) + 1) = wrap64 ((i : Int) + 1) from i64_w _, w64 (by omega) (by omega)]; omega
   obtain ⟨a1, rfl, k1⟩ := (HA.out.below HB.out).at_ i hil
   have HIN := Aside0.mk hin
   have HLE : Aside0 ((((xs.take i).map F).length + 1) * 4 ≤ 140737488355328) := ⟨by rw [List.length_map, List.length_take]; omega⟩
   have HTS : Aside0 ((xs.take (i + 1)).map F = (xs.take i).map F ++ [F (gt xs i)]) := ⟨by rw [take_snoc (d := 0) hil, List.map_append]; rfl⟩
   have HXI : Aside0 (gt xs i < 4294967296) := ⟨HX.out i⟩
   have hc := HFF.out wr (gt xs i) HXI.out HB.out
   clear hin hil h8
   go_wp2_with (first | (go_at_call 22; refine hc.mono ?_; rintro e w5 ⟨rfl, hb⟩; have B5 := Aside0.mk (below_step HB.out hb); have V5 := Aside0.mk (HV.out.below hb); clear hb) | ((with_reducible refine gate_builtin (b := .append) (xs := #[.tmp 14, .tmp 18]) rfl ?_); at_builtin; refine Kd.R_append (nat .u32) (w0 := w) w.heap.size rfl (.tmp 14) (.tmp 18) 24 30 (.int .u32 0) 4 rfl Try.underlying24 info30 rfl (by decide) (by decide) (.slice Av nv cv) ((xs.take i).map F) (F (gt xs i)) [.int .u32 ((F (gt xs i) : Nat) : Int)] (fun _ => True) (fun _ => False) rfl rfl rfl (fun _ h => h.elim) (fun _ _ => trivial) V5.out B5.out B5.out.size HLE.out ?_; intro v9 w9 hR hB hg hat; have V9 : Aside0 (WR w9 w.heap.size v9 ((xs.take (i + 1)).map F)) := ⟨by rw [HTS.out]; exact hR⟩; have B9 := Aside0.mk hB; clear hR hB hg hat; obtain ⟨A9, n9, c9, rfl, hn9⟩ := V9.out.as; clear hn9))
   go_roundg (n - (i + 1))
   case measure => have := HIN.out; omega
   case rel => exact ⟨i + 1, A9, n9, c9, by first | rfl | (congr 1; omega), rfl, HIN.out, by omega, B9, V9⟩
  ·obtain rfl : i = n := by omega
   have dd : decide ((i : Int) < (i : Int)) = false := decide_eq_false (by omega)
   have hV := HV.out
   rw [List.take_of_length_le (by have := HL.out; omega)] at hV
   have HVV : Aside0 (WR wr w.heap.size (.slice Av nv cv) (xs.map F)) := ⟨hV⟩
   clear hV hin h8
   go_wp2
   go_ret
   exact ⟨Av, nv, cv, rfl, HVV.out, HB.out⟩
end Go.Proofs.Ytkicfaboibfbpaa.A
end
section
set_option linter.unusedVariables false
set_option linter.unusedSimpArgs false
namespace Go.Proofs.Ytkicfaboibfbpaa.A
open Go.RowKit Go.Proofs.YtkicfaboibfbpaaW.PrintWords Go.Proofs.YtkicfaboibfbpaaW.PrintLast Go.Proofs.YtkicfaboibfbpaaW.PrintMore Go.Proofs.Ytkicfaboibfbpaa.PCurveAts
theorem row_block {α : Type} {d : Kd α} {e : TypeId} {w : World} {base n c : Nat} {A : Option Addr} {ok : Nat → Prop} {l : List α} (h : d.R e w base ok (.slice A n c) l) (h0 : 0 < n) : ∃ r, A = some ⟨r, 0, none⟩ ∧ base ≤ r ∧ r < w.heap.size := by
 obtain ⟨inner, ho⟩ := Kd.R_own h
 rcases ho.2 with ⟨e, h1⟩ | ⟨r, cap, cur, e, h1, h2, _⟩
 ·injection e with _ e2 _
  omega
 ·injection e with e1 _ _
  exact ⟨r, e1, h1, blk_lt h2⟩
/-- pointers, or none -/
def encO (o : Option Nat) : Value := .pointer (o.map fun g => ⟨g, 0, none⟩)
theorem encO_one (o : Option Nat) : (encO o).oneCell' = true := by cases o <;> rfl
def pko : Kd (Option Nat) := Kd.scalar encO encO_one
def OR (w : World) (b : Nat) (v : Value) (os : List (Option Nat)) : Prop := pko.R 26 w b (fun _ => True) v os
theorem PR.or {w : World} {b : Nat} {v : Value} {gs : List Nat} (h : PR w b v gs) : OR w b v (gs.map some) := by
 refine Kd.R_of_own ?_ h.1
 have e : encs encO (gs.map some) = encs (fun g : Nat => Value.pointer (some ⟨g, 0, none⟩)) gs := by simp [encs, encO, Function.comp_def]
 rw [List.length_map, e]
 exact Kd.own_of_R h
section
variable {P : Program} {ops : Array Oper} {Q : Exit → Act → World → Prop} {o : Oper} {rest : List Oper} {a : Act}
/-- one element of an own row is written -/
theorem putS {α : Type} (enc : α → Value) (z : α) {h1 : ∀ x, (enc x).oneCell' = true} {w0 W : World} (base : Nat) (hN : o.dst = none) (hgd : o.guard = none) (t e : TypeId) (p x : Operand) (ho : o.op = .store t p x) (ht : (P.info? t).map (·.size) = some 1) {r n c o' : Nat} (i : Nat) (ll : List α) (u : α)
    (haddr : a.eval p = .pointer (some ⟨r, o', none⟩)) (hoff : o' = i) (hx : a.eval x = enc u) (hc : (enc u).cells.toList = [enc u]) (HO : (Kd.scalar enc h1).R e W base (fun _ => True) (.slice (some ⟨r, 0, none⟩) n c) ll) (hi : i < n) (HB : Below base w0 W)
    (h : ∀ w1, (Kd.scalar enc h1).R e w1 base (fun _ => True) (.slice (some ⟨r, 0, none⟩) n c) (ll.set i u) → Below base w0 w1 → W.grownBy w1 (some r) → wpList P ops Q rest a w1) : wpList P ops Q (o :: rest) a W := by
 obtain ⟨cc, k1, k2, k3, _⟩ := Kd.R_elem HO z (i : Int) (by omega) (by omega)
 refine Kd.R_store (Kd.scalar enc h1) base hN hgd t p x ho e (i : Int) 0 ll u (enc u) [enc u] cc (fun _ => True) (fun _ => False) haddr (by rw [hoff]; show i = i * 1 + 0; omega) hx hc ht (by intro q hq; simp at hq; rw [hq]; exact h1 u) HO (by omega) (by omega) k1 k3 (Nat.le_refl _) ?_ (fun _ h => h.elim) HB h
 have e : cc.drop (0 + [enc u].length) = [] := List.drop_eq_nil_of_le (by rw [k1]; exact Nat.le_refl _)
 rw [e, List.take_zero, List.nil_append, List.append_nil]
 rfl
end
theorem set_gt {l : List Nat} {i j v : Nat} (h : i ≠ j) : gt (l.set i v) j = gt l j := by
 unfold gt
 rw [List.getD_eq_getElem?_getD, List.getD_eq_getElem?_getD, List.getElem?_set_ne h]
theorem map_gt {F : Nat → Nat} {l : List Nat} {j : Nat} (h : j < l.length) : gt (l.map F) j = F (gt l j) := by
 unfold gt
 rw [List.getD_eq_getElem?_getD, List.getD_eq_getElem?_getD, List.getElem?_map, List.getElem?_eq_getElem h]; rfl
theorem add_off (r j : Nat) : Addr.add ⟨r, 0, none⟩ j = ⟨r, j, none⟩ := by
 unfold Addr.add
 by_cases h : j = 0
 ·rw [if_pos h, h]
 ·rw [if_neg h]; simp
theorem map_len {w : World} {b m nm cm : Nat} {A : Option Addr} {F : Nat → Nat} {xs : List Nat} (h : WR w b (.slice A nm cm) (xs.map F)) (hm : xs.length = m) : m = nm := by
 have h1 := h.len.1
 rw [List.length_map, hm] at h1
 exact h1.symm
theorem size26 : (Try.prog.info? 26).map (·.size) = some 1 := by kernel_rfl
theorem Join_badJ (A : Option Addr) (c n : Nat) (h : n = 0 ∨ 8 < n) (hn : n ≤ 12) (w : World) : Calls Try.prog 32 #[.slice A n c] w fun e w' => e = .returned (.tuple #[.pointer none, .int .i64 40]) ∧ Below w.heap.size w w' := Join_bad A c n h (by omega) w
set_option maxHeartbeats 32000000 in
set_option maxRecDepth 100000 in
theorem curveChains_main (A1 : Option Addr) (c1 : Nat) (ls : List (List (Nat × Nat))) (A2 : Option Addr) (c2 : Nat) (xs : List Nat) (A3 : Option Addr) (c3 : Nat) (ys : List Nat) (w : World) (hK : KsA w A1 ls) (hc1 : ls.length ≤ c1) (hl : ∀ l ∈ ls, kok l) (hX : Ws w A2 xs) (hc2 : xs.length ≤ c2) (hx : ∀ i, gt xs i < 4294967296) (hY : Ws w A3 ys) (hc3 : ys.length ≤ c3) (hy : ∀ i, gt ys i < 4294967296) (g0 : ¬ 12 < ls.length) (g1 : ¬ 100 < xs.length) (g2 : ¬ 30 < ys.length) :
    Calls Try.prog 9 #[.slice A1 ls.length c1, .slice A2 xs.length c2, .slice A3 ys.length c3] w fun e w' => e = .returned (.bool true) ∧ Below w.heap.size w w' := by
 have HK : Aside0 (∀ W, Below w.heap.size w W → KsA W A1 ls) := ⟨fun W hb => hK.below hb⟩
 have HLK := Aside0.mk hl
 have HX : Aside0 (∀ w', Below w.heap.size w w' → Ws w' A2 xs) := ⟨fun w' hb => hX.below hb⟩
 have HG := Aside0.mk hx
 have HXY : Aside0 (∀ w', Below w.heap.size w w' → Ws w' A3 ys) := ⟨fun w' hb => hY.below hb⟩
 have HGY := Aside0.mk hy
 obtain ⟨n, hn⟩ : ∃ n, ls.length = n := ⟨_, rfl⟩
 obtain ⟨m, hmm⟩ : ∃ n, xs.length = n := ⟨_, rfl⟩
 obtain ⟨k, hkk⟩ : ∃ n, ys.length = n := ⟨_, rfl⟩
 have HN := Aside0.mk hn
 have HM := Aside0.mk hmm
 have HKK := Aside0.mk hkk
 rw [hn] at g0 hc1 ⊢
 rw [hmm] at g1 hc2 ⊢
 rw [hkk] at g2 ⊢
 have d1 : decide ((n : Int) > 12) = false := decide_eq_false (by omega)
 have d2 : (12 < n) = False := eq_false g0
 have d3 : decide ((m : Int) > 100) = false := decide_eq_false (by omega)
 have d4 : (100 < m) = False := eq_false g1
 have d5 : decide ((k : Int) > 30) = false := decide_eq_false (by omega)
 have d6 : (30 < k) = False := eq_false g2
 have HSZ : Aside0 (n ≤ 12 ∧ m ≤ 100 ∧ k ≤ 30) := ⟨by omega⟩
 clear hK hc1 hl hX hc2 hx hY hc3 hy g0 g1 g2 hn hmm hkk
 go_enter Try.func9, Try.ntmps9
 go_wp2_with ((go_at_call 10; (with_reducible refine (known_calls _).mono ?_); rintro e w1 ⟨rfl, hb⟩; have B1 := Aside0.mk hb; clear hb))
 go_loopg [7, 8] n (fun kx s3 s4 wr => ∃ (i : Nat) (Av : Option Addr) (nv cv : Nat) (gs : List Nat), s4 = .int .i64 (i : Int) ∧ s3 = .slice Av nv cv ∧ i ≤ n ∧ n - i ≤ kx ∧ Aside0 (Below w.heap.size w wr) ∧ Aside0 (PR wr w.heap.size (.slice Av nv cv) gs) ∧ Aside0 (Cvn wr w.heap.size gs (ls.take i)) ∧ Aside0 (gs.length = i) ∧ Aside0 (∀ j, j < i → chk (ls.getD j []) = 0))
 case atStart => exact ⟨0, none, 0, 0, [], rfl, rfl, Nat.zero_le _, by omega, B1, ⟨Kd.R_nil _ _ _ _ _⟩, ⟨Cvn.nil _ _⟩, ⟨rfl⟩, ⟨fun j hj => absurd hj (by omega)⟩⟩
 case round =>
  obtain ⟨i, Av, nv, cv, gs, rfl, rfl, i1, i2, HB, HV, HN2, HGL, HCK⟩ := hrel
  have h8 := HSZ.out.1
  by_cases hin : i < n
  case pos =>
   have hil : i < ls.length := by have := HN.out; omega
   have e1i : decide ((0 : Int) ≤ (i : Int)) = true := decide_eq_true (by omega)
   have e2i : decide ((i : Int) < (n : Int)) = true := decide_eq_true (by omega)
   have e5i : ((0 : Int) ≤ (i : Int)) = True := eq_true (by omega)
   have e6i : ((i : Int) < (n : Int)) = True := eq_true (by omega)
   have e7i : (i < n) = True := eq_true (by omega)
   have wi : IntKind.i64.wrap ((i : Int) + 1) = ((i + 1 : Nat) : Int) := by rw [show IntKind.i64.wrap ((i : Int) + 1) = wrap64 ((i : Int) + 1) from i64_w _, w64 (by omega) (by omega)]; omega
   obtain ⟨ad, Ai, ci, rfl, hp, hci, hKi⟩ := (HK.out wr HB.out).at_ i hil
   have HKL := Aside0.mk (HLK.out _ (getD_mem hil []))
   have HC := Aside0.mk hci
   obtain ⟨li, hli⟩ : ∃ u, ls.getD i [] = u := ⟨_, rfl⟩
   rw [hli] at hp HKL HC hKi
   have HKI : Aside0 (Kn wr Ai li) := ⟨hKi⟩
   have HKC0 : k43.C wr Ai li.length (li.map kI) := hKi
   have HIN := Aside0.mk hin
   have HLI := Aside0.mk hli
   have HIL := Aside0.mk hil
   obtain ⟨mi, hm⟩ : ∃ m, li.length = m := ⟨_, rfl⟩
   rw [hm] at hp HC HKC0
   have HMM := Aside0.mk hm
   have HKC := Aside0.mk HKC0
   have HLG : Aside0 ((gs.length + 1) * 8 ≤ 140737488355328) := ⟨by have := HGL.out; omega⟩
   by_cases h64 : 64 < mi
   ·have t1 : decide ((mi : Int) > 64) = true := decide_eq_true (by omega)
    have t2 : (64 < mi) = True := eq_true h64
    clear h8 hin hil hKi hci hli hm h64 HKC0
    go_wp2
    go_ret
    exact ⟨rfl, HB.out⟩
   have t1 : decide ((mi : Int) > 64) = false := decide_eq_false (by omega)
   have t2 : (64 < mi) = False := eq_false h64
   have HCH : Aside0 (∀ W, Kn W Ai li → Calls Try.prog 30 #[.slice Ai mi ci] W fun e w' => e = .returned (.int .i64 ((chk li : Nat) : Int)) ∧ Drawn0 W w') := ⟨fun W h => by rw [← hm]; exact rCheck_calls li HKL.out (by omega) Ai ci (by rw [hm]; exact HC.out) W h⟩
   have HLE : Aside0 ((([] : List S43).length + mi) * 8 ≤ 140737488355328) := ⟨by simp only [List.length_nil]; omega⟩
   obtain ⟨ek, hek⟩ : ∃ k, chk li = k := ⟨_, rfl⟩
   rw [hek] at HCH
   by_cases h0 : ek = 0
   case neg =>
    have t3 : ((ek : Int) != 0) = true := by rw [bne_iff_ne]; omega
    have t4 : decide ((ek : Int) = 0) = false := decide_eq_false (by omega)
    have t5 : (ek = 0) = False := eq_false h0
    clear h8 hin hil hKi hci hli hm h64 hek h0 HKC0
    go_wp2_with ((go_at_call 30; (with_reducible refine (HCH.out wr HKI.out).mono ?_); rintro e w3 ⟨rfl, hd⟩; have B3 := Aside0.mk hd.below; have HKC3 : Aside0 (k43.C w3 Ai mi (li.map kI)) := ⟨Kd.C_below HKC.out hd.below⟩; have V3 : Aside0 (PR w3 w.heap.size (.slice Av nv cv) gs) := ⟨Kd.R_below HV.out hd.below⟩; have N3 := Aside0.mk (HN2.out.below hd.below); have hp2 := pw_cell_below hd.below hp; clear hd))
    go_ret
    exact ⟨rfl, below_step HB.out B3.out⟩
   subst h0
   have t3 : (((0 : Nat) : Int) != 0) = false := by decide
   have HNEW : Aside0 (∀ A c w, Kn w A li → mi ≤ c → Calls Try.prog 31 #[.slice A mi c] w fun e w' => ∃ g B cb, e = .returned (.tuple #[.pointer (some ⟨g, 0, none⟩), .int .i64 0]) ∧ NewC w' w.heap.size g B cb li ∧ Below w.heap.size w w') := ⟨fun A c w h1 h2 => by
    have := New_ok HKL.out (by omega) (by rw [hm]; exact h2) hek w h1
    rwa [hm] at this⟩
   have HEK := Aside0.mk hek
   clear h8 hin hil hKi hci hli hm h64 hek HKC0
   go_wp2_with (first | (go_at_call 30; (with_reducible refine (HCH.out wr HKI.out).mono ?_); rintro e w3 ⟨rfl, hd⟩; have B3 := Aside0.mk hd.below; have HKC3 : Aside0 (k43.C w3 Ai mi (li.map kI)) := ⟨Kd.C_below HKC.out hd.below⟩; have V3 : Aside0 (PR w3 w.heap.size (.slice Av nv cv) gs) := ⟨Kd.R_below HV.out hd.below⟩; have N3 := Aside0.mk (HN2.out.below hd.below); have hp2 := pw_cell_below hd.below hp; clear hd) | ((with_reducible refine gate_dst (N := 63) rfl ?_); refine Kd.R_append_rows k43 (W := w3) (Rr := k43.K w3) (w0 := w3) w3.heap.size rfl (.const (.slice none 0 0)) (.tmp 62) 23 43 (.agg #[.int .u32 0, .int .u32 0]) 8 rfl Try.underlying23 info43 rfl (by decide) (by decide) (.slice none 0 0) [] (li.map kI) Ai mi ci (fun _ => True) (fun _ => False) rfl rfl (KR.nil w3 _) HKC3.out (fun x cs h => k43_any _ _ _ _ _ _ h) (fun _ h => h.elim) (fun _ _ => trivial) (Below.refl _ _) (Nat.le_refl _) HLE.out ?_; intro v1 w4 hR hB hg hat; rw [List.nil_append] at hR; have R1 : Aside0 (KR w4 w3.heap.size v1 li) := ⟨hR⟩; have B4 := Aside0.mk (below_step B3.out hB); obtain ⟨Al, n1, cl, rfl, hn1⟩ := R1.out.as; obtain rfl : mi = n1 := (hn1.trans HMM.out).symm; have R1K : Aside0 (Kn w4 Al li) := ⟨R1.out.kn.2.2⟩; have R1C : Aside0 (mi ≤ cl) := ⟨R1.out.kn.2.1⟩; have V4 : Aside0 (PR w4 w.heap.size (.slice Av nv cv) gs) := ⟨Kd.R_below V3.out hB⟩; have N4 := Aside0.mk (N3.out.below hB); clear hR hB hg hat hn1) | (go_at_call 31; (with_reducible refine (HNEW.out Al cl w4 R1K.out R1C.out).mono ?_); rintro e w5 ⟨g, B, cb, rfl, hC, hb⟩; have C2 : Aside0 (NewC w5 w.heap.size g B cb li) := ⟨NewC.lower hC (below_step HB.out B4.out).size⟩; have B2 := Aside0.mk (below_step B4.out hb); have V2 : Aside0 (PR w5 w.heap.size (.slice Av nv cv) gs) := ⟨Kd.R_below V4.out hb⟩; have N2 := Aside0.mk (N4.out.below hb); clear hC hb) | ((with_reducible refine gate_builtin (b := .append) (xs := #[.tmp 73, .tmp 75]) rfl ?_); at_builtin; refine Kd.R_append pk (w0 := w) w.heap.size rfl (.tmp 73) (.tmp 75) 61 26 (.pointer none) 8 rfl Try.underlying61 info26 rfl (by decide) (by decide) (.slice Av nv cv) gs g [.pointer (some ⟨g, 0, none⟩)] (fun _ => True) (fun _ => False) rfl rfl rfl (fun _ h => h.elim) (fun _ _ => trivial) V2.out (below_step HB.out B2.out) (below_step HB.out B2.out).size HLG.out ?_; intro v9 w9 hR hB hg hat; have V9 : Aside0 (PR w9 w.heap.size v9 (gs ++ [g])) := ⟨hR⟩; have B9 := Aside0.mk hB; have N9 : Aside0 (Cvn w9 w.heap.size (gs ++ [g]) (ls.take (i + 1))) := ⟨by rw [take_snoc HIL.out, HLI.out]; exact (N2.out.snoc C2.out).grown V2.out hg⟩; clear hR hB hg hat; obtain ⟨A9, n9, c9, rfl⟩ := PR.as V9.out))
   go_roundg (n - (i + 1))
   case measure => have := HIN.out; omega
   case rel => exact ⟨i + 1, A9, n9, c9, gs ++ [g], by first | rfl | (congr 1; omega), rfl, HIN.out, by omega, ⟨B9.out⟩, V9, N9, ⟨by have := HGL.out; simp; omega⟩, ⟨fun j hj => by
    rcases Nat.lt_or_eq_of_le (Nat.lt_succ_iff.mp hj) with h | h
    ·exact HCK.out j h
    ·rw [h, HLI.out]; exact HEK.out⟩⟩
  case neg =>
   obtain rfl : i = n := by omega
   have dd : decide ((i : Int) < (i : Int)) = false := decide_eq_false (by omega)
   have hC := HN2.out
   rw [List.take_of_length_le (by have := HN.out; omega)] at hC
   have HCV : Aside0 (Cvn wr w.heap.size gs ls) := ⟨hC⟩
   obtain ⟨p1, p2, p3⟩ := HV.out.len
   have hg := HGL.out
   obtain rfl : nv = i := by omega
   have hvl := vall_val HLK.out (vall_of (fun j hj => HCK.out j (by have := HN.out; omega)))
   by_cases h18 : nv = 0 ∨ 8 < nv
   ·have HJB : Aside0 (Calls Try.prog 32 #[.slice Av nv cv] wr fun e w' => e = .returned (.tuple #[.pointer none, .int .i64 40]) ∧ Below wr.heap.size wr w') := ⟨Join_badJ Av cv nv h18 h8 wr⟩
    by_cases h00 : nv = 0
    ·have e1 : ((nv : Int) == 0) = true := by rw [beq_iff_eq]; omega
     have e2 : decide ((nv : Int) = 0) = true := decide_eq_true (by omega)
     have e3 : (nv = 0) = True := eq_true h00
     clear hC p1 p2 p3 hg hin h8 hvl h18 h00
     go_wp2_with (go_at_call 32; refine HJB.out.mono ?_; rintro e w5 ⟨rfl, hb⟩; have B5 := Aside0.mk hb; clear hb)
     go_ret
     exact ⟨rfl, below_step HB.out B5.out⟩
    ·have e1 : ((nv : Int) == 0) = false := by rw [beq_eq_false_iff_ne]; omega
     have e2 : decide ((nv : Int) = 0) = false := decide_eq_false (by omega)
     have e3 : (nv = 0) = False := eq_false h00
     have e4 : decide ((nv : Int) > 8) = true := decide_eq_true (by omega)
     have e5 : (8 < nv) = True := eq_true (by omega)
     clear hC p1 p2 p3 hg hin h8 hvl h18 h00
     go_wp2_with (go_at_call 32; refine HJB.out.mono ?_; rintro e w5 ⟨rfl, hb⟩; have B5 := Aside0.mk hb; clear hb)
     go_ret
     exact ⟨rfl, below_step HB.out B5.out⟩
   have HJO : Aside0 (Calls Try.prog 32 #[.slice Av nv cv] wr fun e w' => ∃ gc B cb, e = .returned (.tuple #[.pointer (some ⟨gc, 0, none⟩), .int .i64 0]) ∧ ChN w' wr.heap.size gc B cb gs ∧ Below wr.heap.size wr w') := ⟨by
    have := Join_own Av cv gs (by omega) (by omega) wr p3
    rwa [← p1] at this⟩
   have e1 : ((nv : Int) == 0) = false := by rw [beq_eq_false_iff_ne]; omega
   have e2 : decide ((nv : Int) = 0) = false := decide_eq_false (by omega)
   have e3 : (nv = 0) = False := eq_false (by omega)
   have e4 : decide ((nv : Int) > 8) = false := decide_eq_false (by omega)
   have e5 : (8 < nv) = False := eq_false (by omega)
   obtain ⟨r, rfl, hr1, hr2⟩ := row_block HV.out (by omega)
   have HRL : Aside0 (r < wr.heap.size ∧ w.heap.size ≤ r) := ⟨hr2, hr1⟩
   have HVL := Aside0.mk hvl
   have H18 : Aside0 (1 ≤ ls.length ∧ ls.length ≤ 8) := ⟨by have := HN.out; omega⟩
   clear hC p1 p2 p3 hg hin h8 hvl h18 hr1 hr2 HCK
   go_wp2_with (go_at_call 32; refine HJO.out.mono ?_; rintro e w5 ⟨gc, B, cb, rfl, hC, hb⟩; have C5 := Aside0.mk hC; have B5 := Aside0.mk hb; clear hC hb)
   have HO5 : Aside0 (OR w5 w.heap.size (.slice (some ⟨r, 0, none⟩) nv cv) (gs.map some)) := ⟨PR.or (Kd.R_below HV.out B5.out)⟩
   have HC5 : Aside0 (Cvn w5 w.heap.size gs ls) := ⟨HCV.out.below B5.out⟩
   have HB5 : Aside0 (Below w.heap.size w w5) := ⟨below_step HB.out B5.out⟩
   have HRJ : Aside0 (r < wr.heap.size) := ⟨HRL.out.1⟩
   have HBJ : Aside0 (wr.heap.size ≤ w5.heap.size) := ⟨B5.out.size⟩
   clear HB HV HN2 HCV B5
   generalize wr = WJ at *
   go_loopg [13] nv (fun kx s13 wr => ∃ (i : Nat) (os : List (Option Nat)), s13 = .int .i64 (i : Int) ∧ i ≤ nv ∧ nv - i ≤ kx ∧ Aside0 (OR wr w.heap.size (.slice (some ⟨r, 0, none⟩) nv cv) os) ∧ Aside0 (Below w.heap.size w wr) ∧ Aside0 (ChN wr WJ.heap.size gc B cb gs) ∧ Aside0 (Cvn wr w.heap.size gs ls))
   case atStart => exact ⟨0, _, rfl, Nat.zero_le _, by omega, HO5, HB5, C5, HC5⟩
   case round =>
    obtain ⟨i, os, rfl, i1, i2, HO, HB, HCN, HCV⟩ := hrel
    have h8 := H18.out
    have hnn := HN.out
    by_cases hin : i < nv
    case pos =>
     have HIN := Aside0.mk hin
     have e1i : decide ((0 : Int) ≤ (i : Int)) = true := decide_eq_true (by omega)
     have e2i : decide ((i : Int) < (nv : Int)) = true := decide_eq_true (by omega)
     have e5i : ((0 : Int) ≤ (i : Int)) = True := eq_true (by omega)
     have e6i : ((i : Int) < (nv : Int)) = True := eq_true (by omega)
     have e7i : (i < nv) = True := eq_true (by omega)
     have wi : IntKind.i64.wrap ((i : Int) + 1) = ((i + 1 : Nat) : Int) := by rw [show IntKind.i64.wrap ((i : Int) + 1) = wrap64 ((i : Int) + 1) from i64_w _, w64 (by omega) (by omega)]; omega
     obtain ⟨cells, hcel⟩ := Kd.R_typed HO.out r rfl
     have HCEL := Aside0.mk hcel
     clear hin h8 hnn hcel
     go_wp2_with ((with_reducible refine gate_store (p := 110) rfl ?_); refine putS encO none (h1 := encO_one) (w0 := w) w.heap.size rfl rfl 26 26 (.tmp 110) (.const (.pointer none)) rfl size26 i os none rfl (by simp) rfl rfl HO.out HIN.out HB.out ?_; intro w9 hR hB hg; have R9 : Aside0 (OR w9 w.heap.size (.slice (some ⟨r, 0, none⟩) nv cv) (os.set i none)) := ⟨hR⟩; have B9 := Aside0.mk hB; have G9 := Aside0.mk hg; clear hR hB hg)
     have CN9 : Aside0 (ChN w9 WJ.heap.size gc B cb gs) := ⟨HCN.out.but HRJ.out (fun k hk hne => G9.out.block k hk (fun e => hne (by injection e)))⟩
     have CV9 : Aside0 (Cvn w9 w.heap.size gs ls) := ⟨HCV.out.but HCEL.out (fun k hk hne => G9.out.block k hk (fun e => hne (by injection e)))⟩
     go_roundg (nv - (i + 1))
     case measure => have := HIN.out; omega
     case rel => exact ⟨i + 1, _, by first | rfl | (congr 1; omega), HIN.out, by omega, R9, B9, CN9, CV9⟩
    obtain rfl : i = nv := by omega
    have dd : decide ((i : Int) < (i : Int)) = false := decide_eq_false (by omega)
    have HCHB : Aside0 (ChB wr gc gs ls) := ⟨HCN.out.chb HCV.out.cvs⟩
    have RF := ris_all ls HVL.out
    obtain ⟨F, hF⟩ : ∃ F, atA ls = F := ⟨_, rfl⟩
    have HFF := Aside0.mk hF
    rw [hF] at RF
    have HRF := Aside0.mk RF
    have HAT : Aside0 (∀ (W : World) (x : Nat), x < 4294967296 → Below wr.heap.size wr W → Calls Try.prog 22 #[.pointer (some ⟨gc, 0, none⟩), .int .u32 (x : Int)] W fun e w' => e = .returned (.int .u32 ((F x : Nat) : Int)) ∧ Below W.heap.size W w') := ⟨fun W x hx hb => by
     have := ChainAt_calls gc gs ls HVL.out H18.out.2 H18.out.1 x hx W (HCHB.out.below hb)
     rwa [hF] at this⟩
    have HRA : Aside0 (∀ (W : World) (x : Nat), x < 4294967296 → Below wr.heap.size wr W → Calls Try.prog 35 #[.slice A1 i c1, .int .u32 (x : Int)] W fun e w' => e = .returned (.int .u32 ((F x : Nat) : Int)) ∧ Below W.heap.size W w') := ⟨fun W x hx hb => by
     have := rAtAll_calls A1 c1 ls HVL.out (by have := H18.out; omega) x hx W (HK.out W (below_step HB.out hb))
     rwa [hF, HN.out] at this⟩
    have HXW : Aside0 (∀ W, Below wr.heap.size wr W → Ws W A2 xs) := ⟨fun W hb => HX.out W (below_step HB.out hb)⟩
    have HYW : Aside0 (∀ W, Below wr.heap.size wr W → Ws W A3 ys) := ⟨fun W hb => HXY.out W (below_step HB.out hb)⟩
    have HKW : Aside0 (∀ W, Below wr.heap.size wr W → KsA W A1 ls) := ⟨fun W hb => HK.out W (below_step HB.out hb)⟩
    have HXC : Aside0 ((nat .u32).C wr A2 m xs) := ⟨by rw [← HM.out]; exact HXW.out wr (Below.refl _ _)⟩
    have HSM := Aside0.mk HSZ.out.2.1
    have HLX : Aside0 ((([] : List Nat).length + m) * 4 ≤ 140737488355328) := ⟨by have := HSM.out; simp only [List.length_nil]; omega⟩
    have HMAP : Aside0 (∀ W A c, Below wr.heap.size wr W → Ws W A xs → Calls Try.prog 33 #[.func (.func 22) #[.pointer (some ⟨gc, 0, none⟩)] #[], .slice A m c] W fun e w' => ∃ B n cb, e = .returned (.slice B n cb) ∧ WR w' W.heap.size (.slice B n cb) (xs.map F) ∧ Below W.heap.size W w') := ⟨fun W A c hb hA => by
     have := Map_calls gc F A c xs (by have := HSM.out; have := HM.out; omega) HG.out W hA (fun W2 x hx h2 => HAT.out W2 x hx (below_step hb h2))
     rwa [HM.out] at this⟩
    have HWT : Aside0 (∀ W A c, Below wr.heap.size wr W → Ws W A xs → Calls Try.prog 34 #[.slice A m c, .slice A2 m c2] W fun e w' => e = .returned (.bool true) ∧ Below W.heap.size W w') := ⟨fun W A c hb hA => by
     have := Words_t A A2 c c2 xs (by have := HSM.out; have := HM.out; omega) W hA (HXW.out W hb)
     rwa [HM.out] at this⟩
    have te : ((m : Int) != (m : Int)) = false := by rw [bne_eq_false_iff_eq]
    have HHB := Aside0.mk HB.out
    clear HB HO HCN HCV hF RF hin h8 hnn
    go_wp2_with (first | ((with_reducible refine gate_dst (N := 112) rfl ?_); refine Kd.R_append_row (fun x : Nat => Value.int .u32 x) (0 : Nat) (h1 := fun _ => rfl) (W := wr) (w0 := wr) wr.heap.size rfl (.const (.slice none 0 0)) (.tmp 111) 24 30 (.int .u32 0) 4 rfl Try.underlying24 info30 rfl (by omega) (.slice none 0 0) [] xs A2 m c2 (fun _ => True) rfl rfl (fun _ _ => trivial) (Kd.R_nil _ _ _ _ _) HXC.out (Below.refl _ _) (Nat.le_refl _) HLX.out ?_; intro v6 w6 hR hB hg hat; rw [List.nil_append] at hR; have R6 : Aside0 (WR w6 wr.heap.size v6 xs) := ⟨hR⟩; have B6 := Aside0.mk hB; clear hR hB hg hat; obtain ⟨A6, n6, c6, rfl, hn6⟩ := R6.out.as; obtain rfl : m = n6 := (hn6.trans HM.out).symm; have L6 := Aside0.mk R6.out.len.2.2; clear hn6) | (go_at_call 33; (with_reducible refine (HMAP.out w6 A6 c6 B6.out L6.out).mono ?_); rintro e w7 ⟨Bm, nm, cm, rfl, hR, hb⟩; have R7 := Aside0.mk hR; have B7 := Aside0.mk (below_step B6.out hb); have T7 := Aside0.mk hb; have L7 := Aside0.mk (L6.out.below hb); obtain rfl := map_len hR HM.out; clear hR hb) | (go_at_call 34; (with_reducible refine (HWT.out w7 A6 c6 B7.out L7.out).mono ?_); rintro e w8 ⟨rfl, hb⟩; have B8 := Aside0.mk (below_step B7.out hb); have T8 := Aside0.mk (below_step T7.out hb); have R8 := Aside0.mk (R7.out.below hb); clear hb))
    clear te R6 L6 R7 L7 B7 T7 HXC HMAP HWT
    generalize w6 = W6 at *
    generalize wr = W0 at *
    go_loopg [16] m (fun kx s16 wr => ∃ (j : Nat) (ms : List Nat), s16 = .int .i64 (j : Int) ∧ j ≤ m ∧ m - j ≤ kx ∧ Aside0 (WR wr W6.heap.size (.slice Bm m cm) ms) ∧ Aside0 (Below W6.heap.size W6 wr) ∧ Aside0 (∀ q, j ≤ q → q < m → gt ms q = F (gt xs q)))
    case atStart => exact ⟨0, _, rfl, Nat.zero_le _, by omega, R8, T8, ⟨fun q _ hq => map_gt (by have := HM.out; omega)⟩⟩
    case round =>
     obtain ⟨j, ms, rfl, j1, j2, HR, HT, HE⟩ := hrel
     have hs := HSM.out
     by_cases hjn : j < m
     case pos =>
      have HJN := Aside0.mk hjn
      have HJX : Aside0 (j < xs.length) := ⟨by have := HM.out; omega⟩
      have e1j : decide ((0 : Int) ≤ (j : Int)) = true := decide_eq_true (by omega)
      have e2j : decide ((j : Int) < (m : Int)) = true := decide_eq_true (by omega)
      have e5j : ((0 : Int) ≤ (j : Int)) = True := eq_true (by omega)
      have e6j : ((j : Int) < (m : Int)) = True := eq_true (by omega)
      have e7j : (j < m) = True := eq_true (by omega)
      have wi : IntKind.i64.wrap ((j : Int) + 1) = ((j + 1 : Nat) : Int) := by rw [show IntKind.i64.wrap ((j : Int) + 1) = wrap64 ((j : Int) + 1) from i64_w _, w64 (by omega) (by omega)]; omega
      have BW : Aside0 (Below W0.heap.size W0 wr) := ⟨below_step B6.out HT.out⟩
      obtain ⟨ax, rfl, hcx⟩ := (HXW.out wr BW.out).at_ j HJX.out
      obtain ⟨x, hx⟩ : ∃ x, gt xs j = x := ⟨_, rfl⟩
      have HXL : Aside0 (x < 4294967296) := ⟨by rw [← hx]; exact HG.out j⟩
      rw [hx] at hcx
      obtain ⟨y, hy⟩ : ∃ y, F x = y := ⟨_, rfl⟩
      have hmj := HE.out j (Nat.le_refl _) hjn
      rw [hx, hy] at hmj
      obtain ⟨rm, rfl, _, _⟩ := row_block HR.out (by omega)
      have hcm := HR.out.len.2.2.at2 j (by rw [← HR.out.len.1]; exact hjn)
      rw [hmj] at hcm
      have HCX : Aside0 (∀ W, Below wr.heap.size wr W → W.cell? (ax.add j) = some (.int .u32 (x : Int))) := ⟨fun W hb => pw_cell_below hb hcx⟩
      have HCM : Aside0 (∀ W, Below wr.heap.size wr W → W.cell? (⟨rm, j, none⟩ : Addr) = some (.int .u32 (y : Int))) := ⟨fun W hb => pw_cell_below hb (by rw [add_off] at hcm; exact hcm)⟩
      have HA1 : Aside0 (∀ W, Below wr.heap.size wr W → Calls Try.prog 22 #[.pointer (some ⟨gc, 0, none⟩), .int .u32 (x : Int)] W fun e w' => e = .returned (.int .u32 (y : Int)) ∧ Below W.heap.size W w') := ⟨fun W hb => by
       have := HAT.out W x HXL.out (below_step BW.out hb)
       rwa [hy] at this⟩
      have HA2 : Aside0 (∀ W, Below wr.heap.size wr W → Calls Try.prog 35 #[.slice A1 i c1, .int .u32 (x : Int)] W fun e w' => e = .returned (.int .u32 (y : Int)) ∧ Below W.heap.size W w') := ⟨fun W hb => by
       have := HRA.out W x HXL.out (below_step BW.out hb)
       rwa [hy] at this⟩
      have te : ((y : Int) != (y : Int)) = false := by rw [bne_eq_false_iff_eq]
      clear hs hjn hx hy hmj hcm
      go_wp2_with (first | (go_at_call 35; (with_reducible refine (HA2.out wr (Below.refl _ _)).mono ?_); rintro e w1 ⟨rfl, hb⟩; have E1 := Aside0.mk hb; clear hcx; have hcx := HCX.out _ E1.out; clear hb) | (go_at_call 22; (with_reducible refine (HA1.out w1 E1.out).mono ?_); rintro e w2 ⟨rfl, hb⟩; have E2 := Aside0.mk (below_step E1.out hb); have R2 : Aside0 (WR w2 W6.heap.size (.slice (some ⟨rm, 0, none⟩) m cm) ms) := ⟨HR.out.below E2.out⟩; have T2 := Aside0.mk (below_step HT.out E2.out); clear hcx; have hcm := HCM.out _ E2.out; clear hb)  | ((with_reducible refine gate_store (p := 158) rfl ?_); refine putS (fun x : Nat => Value.int .u32 x) (0 : Nat) (h1 := fun _ => rfl) (w0 := W6) W6.heap.size rfl rfl 30 30 (.tmp 158) (.const (.int .u32 3)) rfl size30 j ms 3 rfl (by simp) rfl rfl R2.out HJN.out T2.out ?_; intro w9 hR hB hg; have R9 : Aside0 (WR w9 W6.heap.size (.slice (some ⟨rm, 0, none⟩) m cm) (ms.set j 3)) := ⟨hR⟩; have T9 := Aside0.mk hB; clear hR hB hg hcm))
      go_roundg (m - (j + 1))
      case measure => have := HJN.out; omega
      case rel => exact ⟨j + 1, _, by first | rfl | (congr 1; omega), HJN.out, by omega, R9, T9, ⟨fun q h1 h2 => by rw [set_gt (by omega)]; exact HE.out q (by omega) h2⟩⟩
     obtain rfl : j = m := by omega
     have dd : decide ((j : Int) < (j : Int)) = false := decide_eq_false (by omega)
     have BW : Aside0 (Below W0.heap.size W0 wr) := ⟨below_step B6.out HT.out⟩
     clear hs hjn HR HT HE
     go_wp2
     generalize wr = W9 at *
     have hv0 := HVL.out _ (getD_mem (show 0 < ls.length by have := H18.out; omega) [])
     have EN := ends_ok hv0
     obtain ⟨lo, hlo⟩ : ∃ u, lo0 (ls.getD 0 []) = u := ⟨_, rfl⟩
     obtain ⟨hi, hhi⟩ : ∃ u, hi0 (ls.getD 0 []) = u := ⟨_, rfl⟩
     rw [hlo, hhi] at EN
     have HEN := Aside0.mk EN
     have HCB : Aside0 (∀ W, Below W9.heap.size W9 W → ChB W gc gs ls) := ⟨fun W hb => HCHB.out.below (below_step BW.out hb)⟩
     have HCL : Aside0 (∀ W (y : Nat), y < 4294967296 → Below W9.heap.size W9 W → Calls Try.prog 27 #[.pointer (some ⟨gc, 0, none⟩), .int .u32 (y : Int)] W fun e w' => e = .returned (.tuple #[.agg #[.int .u32 ((lst F lo hi y).X : Int), .int .u32 ((lst F lo hi y).B : Int), .bool (lst F lo hi y).H], .int .i64 ((lerr F hi y : Nat) : Int)]) ∧ Below W.heap.size W w') := ⟨fun W y hy h => by
      have := Leasth_calls gc gs ls HVL.out H18.out.2 H18.out.1 W (HCB.out W h) y hy
      rwa [HFF.out, hlo, hhi] at this⟩
     have HRL2 : Aside0 (∀ W (y : Nat), y < 4294967296 → Below W9.heap.size W9 W → Calls Try.prog 12 #[.slice A1 i c1, .int .u32 (y : Int)] W fun e w' => e = .returned (.tuple #[.agg #[.int .u32 ((lst F lo hi y).X : Int), .int .u32 ((lst F lo hi y).B : Int), .bool (lst F lo hi y).H], .int .i64 ((lerr F hi y : Nat) : Int)]) ∧ Below W.heap.size W w') := ⟨fun W y hy h => by
      have := rLeast_calls A1 c1 ls HVL.out (by have := H18.out; omega) H18.out.1 y hy W (HKW.out W (below_step BW.out h))
      rwa [HFF.out, hlo, hhi, HN.out] at this⟩
     have HCK : Aside0 (∀ W (y : Nat) (p : Pf), y < 4294967296 → p.X < 4294967296 → Below W9.heap.size W9 W → Calls Try.prog 28 #[.pointer (some ⟨gc, 0, none⟩), .int .u32 (y : Int), .agg #[.int .u32 (p.X : Int), .int .u32 (p.B : Int), .bool p.H]] W fun e w' => e = .returned (.bool (ckP F lo hi y p)) ∧ Below W.heap.size W w') := ⟨fun W y p hy hp h => by
      have := Checkh_calls gc gs ls HVL.out H18.out.2 H18.out.1 W (HCB.out W h) y p.X p.B p.H hy hp
      rwa [HFF.out, hlo, hhi] at this⟩
     have HSK := Aside0.mk HSZ.out.2.2
     have hk32 := Try.underlying32
     clear hv0 EN hlo hhi
     go_loopg [18] k (fun kx s18 wr => ∃ q : Nat, s18 = .int .i64 (q : Int) ∧ q ≤ k ∧ k - q ≤ kx ∧ Aside0 (Below W9.heap.size W9 wr))
     case atStart => exact ⟨0, rfl, Nat.zero_le _, by omega, ⟨Below.refl _ _⟩⟩
     case round =>
      obtain ⟨q, rfl, q1, q2, HB⟩ := hrel
      have hs := HSK.out
      by_cases hqn : q < k
      case neg =>
       obtain rfl : q = k := by omega
       have dd2 : decide ((q : Int) < (q : Int)) = false := decide_eq_false (by omega)
       clear hs hqn
       go_wp2
       go_ret
       exact ⟨rfl, below_step HHB.out (below_step BW.out HB.out)⟩
      have HQN := Aside0.mk hqn
      have HQX : Aside0 (q < ys.length) := ⟨by have := HKK.out; omega⟩
      have e1q : decide ((0 : Int) ≤ (q : Int)) = true := decide_eq_true (by omega)
      have e2q : decide ((q : Int) < (k : Int)) = true := decide_eq_true (by omega)
      have e5q : ((0 : Int) ≤ (q : Int)) = True := eq_true (by omega)
      have e6q : ((q : Int) < (k : Int)) = True := eq_true (by omega)
      have e7q : (q < k) = True := eq_true (by omega)
      have wiq : IntKind.i64.wrap ((q : Int) + 1) = ((q + 1 : Nat) : Int) := by rw [show IntKind.i64.wrap ((q : Int) + 1) = wrap64 ((q : Int) + 1) from i64_w _, w64 (by omega) (by omega)]; omega
      obtain ⟨ay, rfl, hcx⟩ := (HYW.out wr (below_step BW.out HB.out)).at_ q HQX.out
      obtain ⟨y, hy⟩ : ∃ x, gt ys q = x := ⟨_, rfl⟩
      have HYL : Aside0 (y < 4294967296) := ⟨by rw [← hy]; exact HGY.out q⟩
      rw [hy] at hcx
      have en := HEN.out
      obtain ⟨P, hP⟩ : ∃ P, lst F lo hi y = P := ⟨_, rfl⟩
      obtain ⟨er, her⟩ : ∃ e, lerr F hi y = e := ⟨_, rfl⟩
      obtain ⟨ny, hny⟩ : ∃ b, noY F hi y = b := ⟨_, rfl⟩
      have hPX : P.X < 4294967296 := by
       rw [← hP]
       cases h : noY F hi y
       ·exact (lst_X HRF.out en.1 en.2.1 en.2.2.1 en.2.2.2.1 en.2.2.2.2 y h).2.2.2
       ·rw [lst_no h]; show 0 < 4294967296; decide
      have HL1 : Aside0 (∀ W, Below wr.heap.size wr W → Calls Try.prog 12 #[.slice A1 i c1, .int .u32 (y : Int)] W fun e w' => e = .returned (.tuple #[.agg #[.int .u32 (P.X : Int), .int .u32 (P.B : Int), .bool P.H], .int .i64 (er : Int)]) ∧ Below W.heap.size W w') := ⟨fun W hb => by
       have := HRL2.out W y HYL.out (below_step HB.out hb)
       rwa [hP, her] at this⟩
      have HL2 : Aside0 (∀ W, Below wr.heap.size wr W → Calls Try.prog 27 #[.pointer (some ⟨gc, 0, none⟩), .int .u32 (y : Int)] W fun e w' => e = .returned (.tuple #[.agg #[.int .u32 (P.X : Int), .int .u32 (P.B : Int), .bool P.H], .int .i64 (er : Int)]) ∧ Below W.heap.size W w') := ⟨fun W hb => by
       have := HCL.out W y HYL.out (below_step HB.out hb)
       rwa [hP, her] at this⟩
      have HK0 : Aside0 (∀ W, Below wr.heap.size wr W → Calls Try.prog 28 #[.pointer (some ⟨gc, 0, none⟩), .int .u32 (y : Int), .agg #[.int .u32 (P.X : Int), .int .u32 (P.B : Int), .bool P.H]] W fun e w' => e = .returned (.bool (!ny)) ∧ Below W.heap.size W w') := ⟨fun W hb => by
       have := HCK.out W y P HYL.out hPX (below_step HB.out hb)
       rwa [check_lst HRF.out en.1 en.2.1 en.2.2.1 en.2.2.2.1 en.2.2.2.2 HYL.out P hPX, hP, decide_eq_true rfl, Bool.and_true, hny] at this⟩
      have hE : (ny = true ∧ er = 43) ∨ (ny = false ∧ er = 0) := by
       rw [← her]
       unfold lerr
       rw [hny]
       cases ny
       ·exact .inr ⟨rfl, rfl⟩
       ·exact .inl ⟨rfl, rfl⟩
      have te : ((er : Int) != (er : Int)) = false := by rw [bne_eq_false_iff_eq]
      have t0 : ((er : Int) == 0) = !ny := by
       rcases hE with ⟨h1, h2⟩ | ⟨h1, h2⟩ <;> rw [h1, h2] <;> rfl
      have hne : ∀ w : World, (binOp .neq 32 (.agg #[.int .u32 (P.X : Int), .int .u32 (P.B : Int), .bool P.H]) (.agg #[.int .u32 (P.X : Int), .int .u32 (P.B : Int), .bool P.H])).run Try.prog w = .ok (.bool false) w := fun w => by
       have := neq32 P P w
       rwa [decide_eq_true rfl] at this
      have HHB2 := Aside0.mk HB.out
      have B_0 : Aside0 (Below wr.heap.size wr wr) := ⟨Below.refl _ _⟩
      obtain ⟨pX, pB, pH⟩ := P
      simp only at hne HL1 HL2 HK0
      clear hs hqn hE hy hP her hny HB en hPX
      generalize wr = W1 at *
      have HCX : Aside0 (∀ W, Below W1.heap.size W1 W → W.cell? (ay.add q) = some (.int .u32 (y : Int))) := ⟨fun W hb => pw_cell_below hb hcx⟩
      go_wp2_with (first | (go_at_call 12; (with_reducible refine (HL1.out _ B_0.out).mono ?_); rintro e w1 ⟨rfl, hb⟩; have B_1 := Aside0.mk (below_step B_0.out hb); clear hcx; clear hb) | ((with_reducible refine gate_dst (N := 19) rfl ?_); refine box_event ?hg (N := 19) ?hd (cs := #[.int .u32 0, .int .u32 0, .bool false]) (t := 32) ?hr ?_; (case hd => rfl); (case hg => rfl); (case hr => first | (go_simp; done) | (go_simp; rfl)); intro g12 hg_ w2 hm_ hb_; have GP := Aside0.mk (show W1.heap.size ≤ g12 by rw [hg_]; exact B_1.out.size); have B_2 := Aside0.mk (below_step B_1.out hb_); have P_2 := Aside0.mk (hm_); clear hm_ hb_ hg_) | ((with_reducible refine gate_store (p := 19) rfl ?_); refine store_event rfl rfl rfl g12 #[.int .u32 (pX : Int), .int .u32 (pB : Int), .bool pH] _ 32 rfl rfl P_2.out size32 rfl (by simp [Value.oneCell']) ?_; intro w3 hm_ hst_ hbl_; have B_3 := Aside0.mk (B_2.out.trans (hbl_ _ GP.out)); have P_3 := Aside0.mk (hm_); clear P_2 hm_ hst_ hbl_; have cy := HCX.out _ B_3.out) | (go_at_call 27; (with_reducible refine (HL2.out _ B_3.out).mono ?_); rintro e w4 ⟨rfl, hb⟩; have B_4 := Aside0.mk (below_step B_3.out hb); have P_4 := Aside0.mk (blk_below P_3.out hb); clear P_3; clear cy; clear hb) | ((with_reducible refine gate_dst (N := 21) rfl ?_); refine box_event ?hg (N := 21) ?hd (cs := #[.int .u32 0, .int .u32 0, .bool false]) (t := 32) ?hr ?_; (case hd => rfl); (case hg => rfl); (case hr => first | (go_simp; done) | (go_simp; rfl)); intro g14 hg_ w5 hm_ hb_; have NEPQ := Aside0.mk (show g12 ≠ g14 by rw [hg_]; have := blk_lt P_4.out; omega); have GQ := Aside0.mk (show W1.heap.size ≤ g14 by rw [hg_]; exact B_4.out.size); have B_5 := Aside0.mk (below_step B_4.out hb_); have P_5 := Aside0.mk (blk_below P_4.out hb_); clear P_4; have Q_5 := Aside0.mk (hm_); clear hm_ hb_ hg_) | ((with_reducible refine gate_store (p := 21) rfl ?_); refine store_event rfl rfl rfl g14 #[.int .u32 (pX : Int), .int .u32 (pB : Int), .bool pH] _ 32 rfl rfl Q_5.out size32 rfl (by simp [Value.oneCell']) ?_; intro w6 hm_ hst_ hbl_; have B_6 := Aside0.mk (B_5.out.trans (hbl_ _ GQ.out)); have P_6 := Aside0.mk ((hst_ g12 NEPQ.out).trans P_5.out); have Q_6 := Aside0.mk (hm_); clear P_5 Q_5 hm_ hst_ hbl_))
      have B_7 : Aside0 (Below W1.heap.size W1 w6.drew) := ⟨below_drew B_6.out⟩
      have P_7 := Aside0.mk (blk_drew P_6.out)
      have Q_7 := Aside0.mk (blk_drew Q_6.out)
      clear B_6 P_6 Q_6
      refine start_ (n := 20) (S := fun w' => w'.cell? (ay.add q) = some (.int .u32 (y : Int)) ∧ w'.cell? ⟨g12, 0, none⟩ = some (.int .u32 (pX : Int)) ∧ w'.cell? ⟨g12, 1, none⟩ = some (.int .u32 (pB : Int)) ∧ w'.cell? ⟨g12, 2, none⟩ = some (.bool pH) ∧ w'.cell? ⟨g14, 0, none⟩ = some (.int .u32 (pX : Int)) ∧ w'.cell? ⟨g14, 1, none⟩ = some (.int .u32 (pB : Int)) ∧ w'.cell? ⟨g14, 2, none⟩ = some (.bool pH)) (ds := []) #[ff_,ff_,ff_,ff_,ff_,ff_,ff_,ff_,ff_,ff_,ff_,ff_,ff_,ff_,ff_,ff_,ff_,ff_,ff_,ff_] (by kernel_rfl) rfl rfl ⟨HCX.out _ B_7.out, (blk_cell P_7.out 0).trans rfl, (blk_cell P_7.out 1).trans rfl, (blk_cell P_7.out 2).trans rfl, (blk_cell Q_7.out 0).trans rfl, (blk_cell Q_7.out 1).trans rfl, (blk_cell Q_7.out 2).trans rfl⟩ (fun hHeld => ?_)
      generalize w6.drew = w7 at *
      refine pure_ (i := 0) (N := some 183) (v := ?_) (a' := ?_) #[tt_,ff_,ff_,ff_,ff_,ff_,ff_,ff_,ff_,ff_,ff_,ff_,ff_,ff_,ff_,ff_,ff_,ff_,ff_,ff_] rfl rfl (by kernel_rfl) (fun _ _ _ h => h) (Or.inl ⟨by rfl, ?_⟩) ?_ ?_
      rotate_left
      ·intro w'
       go_simp
       with_reducible rfl
      rotate_left
      ·simp only [Act.put, List.setIfInBounds_toArray, List.set_cons_zero, List.set_cons_succ, i64_w, i32_w]
       rfl
      refine pure_ (i := 1) (N := some 184) (v := ?_) (a' := ?_) #[tt_,tt_,ff_,ff_,ff_,ff_,ff_,ff_,ff_,ff_,ff_,ff_,ff_,ff_,ff_,ff_,ff_,ff_,ff_,ff_] rfl rfl (by kernel_rfl) (fun _ _ _ h => h) (Or.inl ⟨by rfl, ?_⟩) ?_ ?_
      rotate_left
      ·intro w'
       go_simp
       with_reducible rfl
      rotate_left
      ·simp only [Act.put, List.setIfInBounds_toArray, List.set_cons_zero, List.set_cons_succ, i64_w, i32_w]
       rfl
      refine pure_ (i := 2) (N := some 185) (v := ?_) (a' := ?_) #[tt_,tt_,tt_,ff_,ff_,ff_,ff_,ff_,ff_,ff_,ff_,ff_,ff_,ff_,ff_,ff_,ff_,ff_,ff_,ff_] rfl rfl (by kernel_rfl) (fun _ _ _ h => h) (Or.inl ⟨by rfl, ?_⟩) ?_ ?_
      rotate_left
      ·intro w'
       go_simp
       with_reducible rfl
      rotate_left
      ·simp only [Act.put, List.setIfInBounds_toArray, List.set_cons_zero, List.set_cons_succ, i64_w, i32_w]
       rfl
      refine pure_ (i := 3) (N := some 186) (v := ?_) (a' := ?_) #[tt_,tt_,tt_,tt_,ff_,ff_,ff_,ff_,ff_,ff_,ff_,ff_,ff_,ff_,ff_,ff_,ff_,ff_,ff_,ff_] rfl rfl (by kernel_rfl) (fun _ _ _ h => h) (Or.inl ⟨by rfl, ?_⟩) ?_ ?_
      rotate_left
      ·intro w'
       go_simp
       with_reducible rfl
      rotate_left
      ·simp only [Act.put, List.setIfInBounds_toArray, List.set_cons_zero, List.set_cons_succ, i64_w, i32_w]
       rfl
      refine take_ (i := 4) (N := some 187) (v := ?_) (a' := ?_) #[tt_,tt_,tt_,tt_,tt_,ff_,ff_,ff_,ff_,ff_,ff_,ff_,ff_,ff_,ff_,ff_,ff_,ff_,ff_,ff_] rfl rfl (by kernel_rfl) (fun _ _ _ h => h) (Or.inl ⟨by rfl, ?_⟩) hHeld ?_ ?_
      rotate_left
      ·rintro w' ⟨s0, s1, s2, s3, s4, s5, s6⟩
       go_simp
       with_reducible rfl
      rotate_left
      ·simp only [Act.put, List.setIfInBounds_toArray, List.set_cons_zero, List.set_cons_succ, i64_w, i32_w]
       rfl
      refine take_ (i := 5) (N := some 188) (v := ?_) (a' := ?_) #[tt_,tt_,tt_,tt_,tt_,tt_,ff_,ff_,ff_,ff_,ff_,ff_,ff_,ff_,ff_,ff_,ff_,ff_,ff_,ff_] rfl rfl (by kernel_rfl) (fun _ _ _ h => h) (Or.inl ⟨by rfl, ?_⟩) hHeld ?_ ?_
      rotate_left
      ·rintro w' ⟨s0, s1, s2, s3, s4, s5, s6⟩
       go_simp
       with_reducible rfl
      rotate_left
      ·simp only [Act.put, List.setIfInBounds_toArray, List.set_cons_zero, List.set_cons_succ, i64_w, i32_w]
       rfl
      refine pure_ (i := 6) (N := some 189) (v := ?_) (a' := ?_) #[tt_,tt_,tt_,tt_,tt_,tt_,tt_,ff_,ff_,ff_,ff_,ff_,ff_,ff_,ff_,ff_,ff_,ff_,ff_,ff_] rfl rfl (by kernel_rfl) (fun _ _ _ h => h) (Or.inl ⟨by rfl, ?_⟩) ?_ ?_
      rotate_left
      ·intro w'
       go_simp
       with_reducible rfl
      rotate_left
      ·simp only [Act.put, List.setIfInBounds_toArray, List.set_cons_zero, List.set_cons_succ, i64_w, i32_w]
       rfl
      refine pure_ (i := 7) (N := some 190) (v := ?_) (a' := ?_) #[tt_,tt_,tt_,tt_,tt_,tt_,tt_,tt_,ff_,ff_,ff_,ff_,ff_,ff_,ff_,ff_,ff_,ff_,ff_,ff_] rfl rfl (by kernel_rfl) (fun _ _ _ h => h) (Or.inl ⟨by rfl, ?_⟩) ?_ ?_
      rotate_left
      ·intro w'
       go_simp
       with_reducible rfl
      rotate_left
      ·simp only [Act.put, List.setIfInBounds_toArray, List.set_cons_zero, List.set_cons_succ, i64_w, i32_w]
       rfl
      refine pure_ (i := 8) (N := some 191) (v := ?_) (a' := ?_) #[tt_,tt_,tt_,tt_,tt_,tt_,tt_,tt_,tt_,ff_,ff_,ff_,ff_,ff_,ff_,ff_,ff_,ff_,ff_,ff_] rfl rfl (by kernel_rfl) (fun _ _ _ h => h) (Or.inl ⟨by rfl, ?_⟩) ?_ ?_
      rotate_left
      ·intro w'
       go_simp
       with_reducible rfl
      rotate_left
      ·simp only [Act.put, List.setIfInBounds_toArray, List.set_cons_zero, List.set_cons_succ, i64_w, i32_w]
       rfl
      refine pure_ (i := 9) (N := some 192) (v := ?_) (a' := ?_) #[tt_,tt_,tt_,tt_,tt_,tt_,tt_,tt_,tt_,tt_,ff_,ff_,ff_,ff_,ff_,ff_,ff_,ff_,ff_,ff_] rfl rfl (by kernel_rfl) (fun _ _ _ h => h) (Or.inl ⟨by rfl, ?_⟩) ?_ ?_
      rotate_left
      ·intro w'
       go_simp
       with_reducible rfl
      rotate_left
      ·simp only [Act.put, List.setIfInBounds_toArray, List.set_cons_zero, List.set_cons_succ, i64_w, i32_w]
       rfl
      refine pure_ (i := 10) (N := some 193) (v := ?_) (a' := ?_) #[tt_,tt_,tt_,tt_,tt_,tt_,tt_,tt_,tt_,tt_,tt_,ff_,ff_,ff_,ff_,ff_,ff_,ff_,ff_,ff_] rfl rfl (by kernel_rfl) (fun _ _ _ h => h) (Or.inl ⟨by rfl, ?_⟩) ?_ ?_
      rotate_left
      ·intro w'
       go_simp
       with_reducible rfl
      rotate_left
      ·simp only [Act.put, List.setIfInBounds_toArray, List.set_cons_zero, List.set_cons_succ, i64_w, i32_w]
       rfl
      refine pure_ (i := 11) (N := some 194) (v := ?_) (a' := ?_) #[tt_,tt_,tt_,tt_,tt_,tt_,tt_,tt_,tt_,tt_,tt_,tt_,ff_,ff_,ff_,ff_,ff_,ff_,ff_,ff_] rfl rfl (by kernel_rfl) (fun _ _ _ h => h) (Or.inl ⟨by rfl, ?_⟩) ?_ ?_
      rotate_left
      ·intro w'
       go_simp
       with_reducible rfl
      rotate_left
      ·simp only [Act.put, List.setIfInBounds_toArray, List.set_cons_zero, List.set_cons_succ, i64_w, i32_w]
       rfl
      refine pure_ (i := 12) (N := some 195) (v := ?_) (a' := ?_) #[tt_,tt_,tt_,tt_,tt_,tt_,tt_,tt_,tt_,tt_,tt_,tt_,tt_,ff_,ff_,ff_,ff_,ff_,ff_,ff_] rfl rfl (by kernel_rfl) (fun _ _ _ h => h) (Or.inl ⟨by rfl, ?_⟩) ?_ ?_
      rotate_left
      ·intro w'
       go_simp
       with_reducible rfl
      rotate_left
      ·simp only [Act.put, List.setIfInBounds_toArray, List.set_cons_zero, List.set_cons_succ, i64_w, i32_w]
       rfl
      refine pure_ (i := 16) (N := some 199) (v := ?_) (a' := ?_) #[tt_,tt_,tt_,tt_,tt_,tt_,tt_,tt_,tt_,tt_,tt_,tt_,tt_,ff_,ff_,ff_,tt_,ff_,ff_,ff_] rfl rfl (by kernel_rfl) (fun _ _ _ h => h) (Or.inl ⟨by rfl, ?_⟩) ?_ ?_
      rotate_left
      ·intro w'
       go_simp
       with_reducible rfl
      rotate_left
      ·simp only [Act.put, List.setIfInBounds_toArray, List.set_cons_zero, List.set_cons_succ, i64_w, i32_w]
       rfl
      refine pure_ (i := 17) (N := some 200) (v := ?_) (a' := ?_) #[tt_,tt_,tt_,tt_,tt_,tt_,tt_,tt_,tt_,tt_,tt_,tt_,tt_,ff_,ff_,ff_,tt_,tt_,ff_,ff_] rfl rfl (by kernel_rfl) (fun _ _ _ h => h) (Or.inl ⟨by rfl, ?_⟩) ?_ ?_
      rotate_left
      ·intro w'
       go_simp
       with_reducible rfl
      rotate_left
      ·simp only [Act.put, List.setIfInBounds_toArray, List.set_cons_zero, List.set_cons_succ, i64_w, i32_w]
       rfl
      refine take_ (i := 13) (N := some 196) (v := ?_) (a' := ?_) #[tt_,tt_,tt_,tt_,tt_,tt_,tt_,tt_,tt_,tt_,tt_,tt_,tt_,tt_,ff_,ff_,tt_,tt_,ff_,ff_] rfl rfl (by kernel_rfl) (fun _ _ _ h => h) (Or.inl ⟨by rfl, ?_⟩) hHeld ?_ ?_
      rotate_left
      ·rintro w' ⟨s0, s1, s2, s3, s4, s5, s6⟩
       go_simp
       with_reducible rfl
      rotate_left
      ·simp only [Act.put, List.setIfInBounds_toArray, List.set_cons_zero, List.set_cons_succ, i64_w, i32_w]
       rfl
      refine take_ (i := 14) (N := some 197) (v := ?_) (a' := ?_) #[tt_,tt_,tt_,tt_,tt_,tt_,tt_,tt_,tt_,tt_,tt_,tt_,tt_,tt_,tt_,ff_,tt_,tt_,ff_,ff_] rfl rfl (by kernel_rfl) (fun _ _ _ h => h) (Or.inl ⟨by rfl, ?_⟩) hHeld ?_ ?_
      rotate_left
      ·rintro w' ⟨s0, s1, s2, s3, s4, s5, s6⟩
       go_simp
       with_reducible rfl
      rotate_left
      ·simp only [Act.put, List.setIfInBounds_toArray, List.set_cons_zero, List.set_cons_succ, i64_w, i32_w]
       rfl
      refine one_ (i := 15) (N := some 198) #[tt_,tt_,tt_,tt_,tt_,tt_,tt_,tt_,tt_,tt_,tt_,tt_,tt_,tt_,tt_,tt_,tt_,tt_,ff_,ff_] rfl rfl (by kernel_rfl) (by decide) (fun K hK => ?_)
      refine goes_ Try.func28 (by kernel_rfl) rfl #[.pointer (some ⟨gc, 0, none⟩), .int .u32 (y : Int), .agg #[.int .u32 (pX : Int), .int .u32 (pB : Int), .bool pH]] (by rfl) rfl rfl (by (try simp only [List.map_toArray, List.map_cons, List.map_nil]); rfl) ?_
      with_reducible refine (HK0.out _ B_7.out).mono ?_
      rintro e w8 ⟨rfl, hb⟩
      refine ⟨_, rfl, ?_⟩
      have B_8 := Aside0.mk (below_step B_7.out hb)
      have P_8 := Aside0.mk (blk_below P_7.out hb)
      have Q_8 := Aside0.mk (blk_below Q_7.out hb)
      clear P_7 Q_7
      clear hb
      refine hK.out _ _ ⟨HCX.out _ B_8.out, (blk_cell P_8.out 0).trans rfl, (blk_cell P_8.out 1).trans rfl, (blk_cell P_8.out 2).trans rfl, (blk_cell Q_8.out 0).trans rfl, (blk_cell Q_8.out 1).trans rfl, (blk_cell Q_8.out 2).trans rfl⟩ (fun hHeld => ?_)
      clear hK K
      refine norm_ (a' := ?_) ?_ ?_
      rotate_left
      ·show Act.put _ (some 198) _ = _
       simp only [Act.put, List.setIfInBounds_toArray, List.set_cons_zero, List.set_cons_succ, i64_w, i32_w]
       rfl
      refine pure_ (i := 18) (N := some 201) (v := ?_) (a' := ?_) #[tt_,tt_,tt_,tt_,tt_,tt_,tt_,tt_,tt_,tt_,tt_,tt_,tt_,tt_,tt_,tt_,tt_,tt_,tt_,ff_] rfl rfl (by kernel_rfl) (fun _ _ _ h => h) (Or.inl ⟨by rfl, ?_⟩) ?_ ?_
      rotate_left
      ·intro w'
       go_simp
       with_reducible rfl
      rotate_left
      ·simp only [Act.put, List.setIfInBounds_toArray, List.set_cons_zero, List.set_cons_succ, i64_w, i32_w]
       rfl
      refine pure_ (i := 19) (N := some 202) (v := ?_) (a' := ?_) #[tt_,tt_,tt_,tt_,tt_,tt_,tt_,tt_,tt_,tt_,tt_,tt_,tt_,tt_,tt_,tt_,tt_,tt_,tt_,tt_] rfl rfl (by kernel_rfl) (fun _ _ _ h => h) (Or.inl ⟨by rfl, ?_⟩) ?_ ?_
      rotate_left
      ·intro w'
       go_simp
       with_reducible rfl
      rotate_left
      ·simp only [Act.put, List.setIfInBounds_toArray, List.set_cons_zero, List.set_cons_succ, i64_w, i32_w]
       rfl
      refine done_ (by kernel_rfl) ?_
      clear hne te
      cases ny
      ·go_wp2
       go_roundg (k - (q + 1))
       case measure => have := HQN.out; omega
       case rel => exact ⟨q + 1, by first | rfl | (congr 1; omega), HQN.out, by omega, ⟨below_step HHB2.out B_8.out⟩⟩
      ·go_wp2
       go_roundg (k - (q + 1))
       case measure => have := HQN.out; omega
       case rel => exact ⟨q + 1, by first | rfl | (congr 1; omega), HQN.out, by omega, ⟨below_step HHB2.out B_8.out⟩⟩
end Go.Proofs.Ytkicfaboibfbpaa.A
end
section
set_option linter.unusedVariables false
set_option linter.unusedSimpArgs false
namespace Go.Proofs.Ytkicfaboibfbpaa.A
open Go.RowKit Go.Proofs.YtkicfaboibfbpaaW.PrintWords Go.Proofs.YtkicfaboibfbpaaW.PrintLast Go.Proofs.YtkicfaboibfbpaaW.PrintMore Go.Proofs.Ytkicfaboibfbpaa.PCurveAts
set_option maxHeartbeats 4000000 in
set_option maxRecDepth 100000 in
theorem curveChains (A1 : Option Addr) (c1 : Nat) (ls : List (List (Nat × Nat))) (A2 : Option Addr) (c2 : Nat) (xs : List Nat) (A3 : Option Addr) (c3 : Nat) (ys : List Nat) (w : World) (hK : KsA w A1 ls) (hc1 : ls.length ≤ c1) (hl : ∀ l ∈ ls, kok l) (hX : Ws w A2 xs) (hc2 : xs.length ≤ c2) (hx : ∀ i, gt xs i < 4294967296) (hY : Ws w A3 ys) (hc3 : ys.length ≤ c3) (hy : ∀ i, gt ys i < 4294967296) :
    Calls Try.prog 9 #[.slice A1 ls.length c1, .slice A2 xs.length c2, .slice A3 ys.length c3] w fun e w' => e = .returned (.bool true) ∧ Below w.heap.size w w' := by
 by_cases g0 : 12 < ls.length
 ·obtain ⟨n, hnn⟩ : ∃ n, ls.length = n := ⟨_, rfl⟩
  obtain ⟨m, hmm⟩ : ∃ n, xs.length = n := ⟨_, rfl⟩
  obtain ⟨k, hkk⟩ : ∃ n, ys.length = n := ⟨_, rfl⟩
  rw [hnn] at g0 ⊢
  have d1 : decide ((n : Int) > 12) = true := decide_eq_true (by omega)
  have d2 : (12 < n) = True := eq_true (by omega)
  clear hK hc1 hl hX hc2 hx hY hc3 hy hmm hkk hnn g0
  go_enter Try.func9, Try.ntmps9
  go_wp2_with (first | (go_at_call 10; (with_reducible refine (known_calls _).mono ?_); rintro e w1 ⟨rfl, hb⟩; have B1 := Aside0.mk hb; clear hb))
  go_ret
  exact ⟨rfl, B1.out⟩
 by_cases g1 : 100 < xs.length
 ·obtain ⟨n, hnn⟩ : ∃ n, ls.length = n := ⟨_, rfl⟩
  obtain ⟨m, hmm⟩ : ∃ n, xs.length = n := ⟨_, rfl⟩
  obtain ⟨k, hkk⟩ : ∃ n, ys.length = n := ⟨_, rfl⟩
  rw [hnn] at g0 ⊢; rw [hmm] at g1 ⊢
  have d1 : decide ((n : Int) > 12) = false := decide_eq_false (by omega)
  have d2 : (12 < n) = False := eq_false (by omega)
  have d3 : decide ((m : Int) > 100) = true := decide_eq_true (by omega)
  have d4 : (100 < m) = True := eq_true (by omega)
  clear hK hc1 hl hX hc2 hx hY hc3 hy hmm hkk hnn g0 g1
  go_enter Try.func9, Try.ntmps9
  go_wp2_with (first | (go_at_call 10; (with_reducible refine (known_calls _).mono ?_); rintro e w1 ⟨rfl, hb⟩; have B1 := Aside0.mk hb; clear hb))
  go_ret
  exact ⟨rfl, B1.out⟩
 by_cases g2 : 30 < ys.length
 ·obtain ⟨n, hnn⟩ : ∃ n, ls.length = n := ⟨_, rfl⟩
  obtain ⟨m, hmm⟩ : ∃ n, xs.length = n := ⟨_, rfl⟩
  obtain ⟨k, hkk⟩ : ∃ n, ys.length = n := ⟨_, rfl⟩
  rw [hnn] at g0 ⊢; rw [hmm] at g1 ⊢; rw [hkk] at g2 ⊢
  have d1 : decide ((n : Int) > 12) = false := decide_eq_false (by omega)
  have d2 : (12 < n) = False := eq_false (by omega)
  have d3 : decide ((m : Int) > 100) = false := decide_eq_false (by omega)
  have d4 : (100 < m) = False := eq_false (by omega)
  have d5 : decide ((k : Int) > 30) = true := decide_eq_true (by omega)
  have d6 : (30 < k) = True := eq_true (by omega)
  clear hK hc1 hl hX hc2 hx hY hc3 hy hmm hkk hnn g0 g1 g2
  go_enter Try.func9, Try.ntmps9
  go_wp2_with (first | (go_at_call 10; (with_reducible refine (known_calls _).mono ?_); rintro e w1 ⟨rfl, hb⟩; have B1 := Aside0.mk hb; clear hb))
  go_ret
  exact ⟨rfl, B1.out⟩
 exact curveChains_main A1 c1 ls A2 c2 xs A3 c3 ys w hK hc1 hl hX hc2 hx hY hc3 hy g0 g1 g2
end Go.Proofs.Ytkicfaboibfbpaa.A
end
section
-- PRINTED WORDS (module Derived/Print/Sized.lean): go-gate-2's, for the rows of laws over slices: an AI agent of Go's test side, Tue Nov 17 2026; no person has read it. Lean checks it.
namespace Go.Proofs.YtkicfaboibfbpaaW.PrintWords
open Go.ChangeShapes Go.WideShapes
/-- A row's slice of whole numbers is no longer than its weight allows. -/
theorem sized_ints {H : Type} {enc : TypeId × Value → H} {P : Program} {W : World} {base : Nat} {spare : Nat → Bool} {held : Bool} {t e : TypeId} {k : IntKind} {a : Option Addr} {len cap : Nat} {d : DataW H} {ps : List MemPlace} {ts : List TypeId} {ds : List (DataW H)} {j : Nat}
    (hsz : (DataW.weightsEach P ts ds).all (· ≤ reachBytes) = true) (ht : ts[j]? = some t) (hd : ds[j]? = some d) (hu : P.underlying t = some (.slice e)) (he : P.underlying e = some (.int k)) (hc : P.cellsOf e = 1) {B : Nat} (hB : P.bytesOf e = B)
    (h : DataW.Trod enc P W base spare held t (.slice a len cap) d ps) : len * B ≤ 140737488351232 := by
 obtain ⟨fuel, hf⟩ := h
 rcases open_ints hu he hc hf with ⟨hcs, _⟩ | ⟨x, l, c, zs, hcs, _, hl, _, hz, hx, _, _⟩
 ·simp [Value.cells] at hcs
  obtain ⟨rfl, rfl, rfl⟩ := hcs
  simp
 ·simp [Value.cells] at hcs
  obtain ⟨rfl, rfl, rfl⟩ := hcs
  obtain ⟨hx, _⟩ := Prod.mk.inj hx
  subst hx
  have z := sized_slice hsz ht hd hu
  rw [hB] at z
  have hl2 : len ≤ zs.length := by
   rw [hz]
   split
   ·exact hl
   ·exact Nat.le_refl _
  have h1 : (lits (H := H) k (zs.take len)).length + (lits (H := H) k (zs.drop len)).length = zs.length := by
   simp [lits]
   omega
  rw [h1] at z
  exact Nat.le_trans (Nat.mul_le_mul_right _ hl2) z
end Go.Proofs.YtkicfaboibfbpaaW.PrintWords
end
section
set_option linter.unusedVariables false
set_option linter.unusedSimpArgs false
namespace Go.Proofs.Ytkicfaboibfbpaa.A
open Go.RowKit Go.ChangeShapes Go.WideShapes Go.ChangeAt Go.Proofs.YtkicfaboibfbpaaW.PrintWords Go.Proofs.YtkicfaboibfbpaaW.PrintLast Go.Proofs.YtkicfaboibfbpaaW.PrintMore Go.Proofs.Ytkicfaboibfbpaa.PCurveAts
theorem list_choose {α : Type} {P : Nat → α → Prop} : ∀ (n : Nat), (∀ i, i < n → ∃ a, P i a) → ∃ l : List α, l.length = n ∧ ∀ i a, l[i]? = some a → P i a := by
 intro n
 induction n with
 | zero => intro _; exact ⟨[], rfl, fun i a h => by simp at h⟩
 | succ n ih =>
  intro h
  obtain ⟨l, hl, hp⟩ := ih (fun i hi => h i (by omega))
  obtain ⟨a, ha⟩ := h n (by omega)
  refine ⟨l ++ [a], by simp [hl], fun i b hb => ?_⟩
  by_cases hi : i < n
  ·rw [List.getElem?_append_left (by omega)] at hb; exact hp i b hb
  ·rw [List.getElem?_append_right (by omega)] at hb
   have : i - l.length = 0 := by
    have := (List.getElem?_eq_some_iff.1 hb).1
    simp at this; omega
   rw [this] at hb
   simp at hb
   subst hb
   rw [show i = n by omega]; exact ha
theorem cells30 : Try.prog.cellsOf 30 = 1 := by kernel_rfl
theorem cells43 : Try.prog.cellsOf 43 = 2 := by kernel_rfl
theorem cells23 : Try.prog.cellsOf 23 = 1 := by kernel_rfl
section
variable {H : Type} {enc : TypeId × Value → H} {W : World}
theorem word_of_trod {fuel : Nat} {v : Value} {y : DataW H × List MemPlace} (h : DataW.trod enc Try.prog W 0 (fun _ => true) true fuel 30 [v] = some y) : ∃ n : Nat, v = .int .u32 (n : Int) ∧ n < 4294967296 := by
 obtain ⟨s, e0, rfl, hw⟩ := DataW.trod_int Try.underlying30 h
 injection e0 with e0 _
 obtain ⟨n, rfl, hn⟩ := wf32 hw
 exact ⟨n, e0, hn⟩
theorem knot_open {fuel : Nat} {cs : List Value} {y : DataW H × List MemPlace} (h : DataW.trod enc Try.prog W 0 (fun _ => true) true fuel 43 cs = some y) :
    ∃ k : Nat × Nat, cs = [.int .u32 (k.1 : Int), .int .u32 (k.2 : Int)] ∧ k.1 < 4294967296 ∧ k.2 < 4294967296 := by
 obtain ⟨y0, y1, n, rfl, hlen, h0, h1⟩ := trod_struct2 Try.underlying43 h
 simp only at h0 h1
 rw [cells30] at h0 h1
 have hc2 : cs.length = 2 := hlen.trans cells43
 obtain ⟨v0, v1, rfl⟩ : ∃ a b, cs = [a, b] := by
  match cs, hc2 with
  | [a, b], _ => exact ⟨a, b, rfl⟩
 have h0 : DataW.trod enc Try.prog W 0 (fun _ => true) true n 30 [v0] = some y0 := h0
 have h1 : DataW.trod enc Try.prog W 0 (fun _ => true) true n 30 [v1] = some y1 := h1
 obtain ⟨a, rfl, ha⟩ := word_of_trod h0
 obtain ⟨b, rfl, hb⟩ := word_of_trod h1
 exact ⟨(a, b), rfl, ha, hb⟩
theorem knots_open {fuel : Nat} {a : Option Addr} {len cap : Nat} {y : DataW H × List MemPlace} (h : DataW.trod enc Try.prog W 0 (fun _ => true) true fuel 23 [.slice a len cap] = some y) :
    ∃ l : List (Nat × Nat), l.length = len ∧ len ≤ cap ∧ Kn W a l ∧ kok l := by
 rcases Go.Deep.open_slice Try.underlying23 h with ⟨hcs, rfl⟩ | ⟨ad, len', cap', m, n, D, Pl, hcs, _, hl, hm, rfl, rfl, hel⟩
 ·injection hcs with hcs _
  injection hcs with e1 e2 e3
  subst e1 e2 e3
  exact ⟨[], rfl, Nat.le_refl _, ⟨rfl, by decide, fun h => absurd h (by decide)⟩, fun k hk => absurd hk (by simp)⟩
 injection hcs with hcs _
 injection hcs with e1 e2 e3
 subst e1 e2 e3
 obtain ⟨l, hll, hp⟩ := list_choose (α := Nat × Nat) (P := fun i k => ∃ cs' : List Value, W.cells? 0 (ad.add (i * 2)) 2 = some cs' ∧ cs' = [.int .u32 (k.1 : Int), .int .u32 (k.2 : Int)] ∧ k.1 < 4294967296 ∧ k.2 < 4294967296) len (fun i hi => by
  obtain ⟨cs', h1, h2⟩ := hel i (by show i < cap; omega)
  rw [cells43] at h1
  obtain ⟨k, h3, h4⟩ := knot_open h2
  exact ⟨k, cs', h1, h3, h4⟩)
 have hcap : cap ≤ 9223372036854775807 := hm
 subst hll
 refine ⟨l, rfl, hl, ⟨by rw [List.length_map], by omega, fun _ => ⟨ad, rfl, fun j p hj => ?_⟩⟩, fun k hk => ?_⟩
 ·rw [List.getElem?_map] at hj
  cases hlj : l[j]? with
  | none => rw [hlj] at hj; cases hj
  | some k =>
   rw [hlj] at hj
   obtain rfl := Option.some.inj hj
   obtain ⟨cs', h1, rfl, _⟩ := hp j k hlj
   have hc := (World.cells?_some h1).2.2
   refine ⟨_, rfl, k43.K_of_M (k43_mkM W 0 (fun _ => True) (kI k)), fun i u hu => ?_⟩
   match i, hu with
   | 0, hu => exact (hc 0 (by omega)).trans hu
   | 1, hu => exact ((congrArg W.cell? (Addr.add_add ad (j * 2) 1).symm).trans (hc 1 (by omega))).trans hu
 ·obtain ⟨j, hj, rfl⟩ := List.mem_iff_getElem.mp hk
  obtain ⟨_, _, _, h3⟩ := hp j _ (List.getElem?_eq_getElem hj)
  exact h3
theorem knotss_open {fuel : Nat} {a : Option Addr} {len cap : Nat} {y : DataW H × List MemPlace} (h : DataW.trod enc Try.prog W 0 (fun _ => true) true fuel 29 [.slice a len cap] = some y) :
    ∃ ls : List (List (Nat × Nat)), ls.length = len ∧ len ≤ cap ∧ KsA W a ls ∧ ∀ l ∈ ls, kok l := by
 rcases Go.Deep.open_slice Try.underlying29 h with ⟨hcs, rfl⟩ | ⟨ad, len', cap', m, n, D, Pl, hcs, _, hl, hm, rfl, rfl, hel⟩
 ·injection hcs with hcs _
  injection hcs with e1 e2 e3
  subst e1 e2 e3
  exact ⟨[], rfl, Nat.le_refl _, ⟨[], rfl, Kd.C_nil _ _, fun i hi => absurd hi (by simp)⟩, fun k hk => absurd hk (by simp)⟩
 injection hcs with hcs _
 injection hcs with e1 e2 e3
 subst e1 e2 e3
 obtain ⟨l, hll, hp⟩ := list_choose (α := Hd × List (Nat × Nat)) (P := fun i p => ∃ cs' : List Value, W.cells? 0 (ad.add (i * 1)) 1 = some cs' ∧ cs' = [.slice p.1.1 p.1.2.1 p.1.2.2] ∧ p.1.2.1 = p.2.length ∧ p.2.length ≤ p.1.2.2 ∧ Kn W p.1.1 p.2 ∧ kok p.2) len (fun i hi => by
  obtain ⟨cs', h1, h2⟩ := hel i (by show i < cap; omega)
  rw [cells23] at h1
  have h1' := h1
  obtain ⟨A, n2, c2, rfl⟩ := Go.Joins.slice_form Try.underlying23 h2
  obtain ⟨l, rfl, h4, h5, h6⟩ := knots_open h2
  exact ⟨((A, l.length, c2), l), _, h1', rfl, rfl, h4, h5, h6⟩)
 have hcap : cap ≤ 9223372036854775807 := hm
 subst hll
 refine ⟨l.map (·.2), by simp, by simpa using hl, ⟨l.map (·.1), by simp, Kd.C_of_reads (d := (none, 0, 0)) ⟨by simp, by simp; omega, fun _ => ⟨ad, rfl, fun j hj => ?_⟩⟩, fun i hi => ?_⟩, fun k hk => ?_⟩
 ·have hj' : j < l.length := by simpa using hj
  obtain ⟨cs', h1, rfl, _⟩ := hp j _ (List.getElem?_eq_getElem hj')
  have hc := (World.cells?_some h1).2.2 0 (by omega)
  rw [Nat.mul_one, Addr.add_zero'] at hc
  rw [List.getD_eq_getElem?_getD, List.getElem?_map, List.getElem?_eq_getElem hj']
  simpa using hc
 ·have hi' : i < l.length := by simpa using hi
  obtain ⟨cs', _, _, h3, h4, h5, _⟩ := hp i _ (List.getElem?_eq_getElem hi')
  rw [List.getD_eq_getElem?_getD, List.getD_eq_getElem?_getD, List.getElem?_map, List.getElem?_map, List.getElem?_eq_getElem hi']
  exact ⟨h3, h4, h5⟩
 ·obtain ⟨p, hp', rfl⟩ := List.mem_map.mp hk
  obtain ⟨j, hj, rfl⟩ := List.mem_iff_getElem.mp hp'
  obtain ⟨_, _, _, _, _, _, h3⟩ := hp j _ (List.getElem?_eq_getElem hj)
  exact h3
end
end Go.Proofs.Ytkicfaboibfbpaa.A
end
