import Derived.Test.YtpmmnjpimnapfaaA4
set_option linter.unusedVariables false
set_option linter.unusedSimpArgs false
namespace Go.Proofs.Ytpmmnjpimnapfaa.A
open Go.RowKit Go.Proofs.YtpmmnjpimnapfaaW.PrintWords Go.Proofs.YtpmmnjpimnapfaaW.PrintLast Go.Proofs.YtpmmnjpimnapfaaW.PrintMore

/-- A slice of numbers in new memory: nil, or at the begin of a block of its own (the block may go on behind the capacity). -/
def Ow (k : IntKind) (e : TypeId) (w : World) (B : Nat) (v : Value) (xs : List Nat) : Prop :=
  (v = .slice none 0 0 ∧ xs = []) ∨ ∃ g cap cur, v = .slice (some ⟨g, 0, none⟩) xs.length cap ∧ B ≤ g ∧ w.heap[g]? = some (.cells cur e (0, 0)) ∧ xs.length ≤ cap ∧ cap ≤ cur.size ∧ cap ≤ 9223372036854775807 ∧ cur.toList.take xs.length = xs.map (fun x : Nat => Value.int k x)
section
variable {k : IntKind} {e : TypeId} {w w1 : World} {B B' : Nat} {v : Value} {xs : List Nat}
theorem Ow.of_R (h : Kd.R (nat k) e w B (fun _ => True) v xs) : Ow k e w B v xs := by
  obtain ⟨h1, h2⟩ := Kd.own_of_R h
  rcases h2 with ⟨rfl, h0⟩ | ⟨g, cap, cur, rfl, hb, hh, hnc, hcm, hcs, ht⟩
  · exact .inl ⟨rfl, List.eq_nil_of_length_eq_zero h0⟩
  · exact .inr ⟨g, cap, cur, rfl, hb, hh, hnc, by omega, by simp only [maxLen] at hcm; omega, by rw [Nat.mul_one] at ht; exact ht⟩
theorem Ow.mono (h : Ow k e w B v xs) (hb : Below w.heap.size w w1) (hB : B' ≤ B) : Ow k e w1 B' v xs := by
  rcases h with h | ⟨g, cap, cur, rfl, h1, h2, r⟩
  · exact .inl h
  · exact .inr ⟨g, cap, cur, rfl, by omega, blk_below h2 hb, r⟩
theorem Ow.C (h : Ow k e w B v xs) : ∃ A cap, v = .slice A xs.length cap ∧ xs.length ≤ cap ∧ (nat k).C w A xs.length xs := by
  rcases h with ⟨rfl, rfl⟩ | ⟨g, cap, cur, rfl, h1, h2, h3, h4, h5, h6⟩
  · exact ⟨none, 0, rfl, by simp, Kd.C_nil _ _⟩
  · refine ⟨_, cap, rfl, h3, Kd.C_of_reads (d := 0) ⟨rfl, by omega, fun hp => ⟨_, rfl, fun j hj => ?_⟩⟩⟩
    rw [add_plain, blk_cell h2 j]
    have h7 : cur.toList[j]? = (xs.map (fun x : Nat => Value.int k x))[j]? := by rw [← h6, List.getElem?_take, if_pos hj]
    rw [← Array.getElem?_toList, h7, List.getElem?_map, List.getElem?_eq_getElem hj, Option.map_some]
    simp [List.getElem?_eq_getElem hj]
theorem Ow.clip {A : Option Addr} {n c : Nat} (h : Ow k e w B (.slice A n c) xs) : Ow k e w B (.slice A n n) xs := by
  rcases h with ⟨h, rfl⟩ | ⟨g, cap, cur, hv, h1, h2, h3, h4, h5, h6⟩
  · injection h with a b c; subst a; subst b; exact .inl ⟨rfl, rfl⟩
  · injection hv with a b c; subst a; subst b; exact .inr ⟨g, _, cur, rfl, h1, h2, Nat.le_refl _, by omega, by omega, h6⟩
end
theorem clip_calls (v : Value) (bs : List Nat) (B : Nat) (w : World) (hR : Ow .u8 5 w B v bs) :
    Calls Try.prog 37 #[v] w fun e w' => ∃ v', e = .returned v' ∧ Ow .u8 5 w' B v' bs ∧ w = w' := by
  obtain ⟨A, c, rfl, hc, hC⟩ := hR.C
  have HR := Aside0.mk hR.clip
  clear hR hC
  go_enter Try.func37, Try.ntmps37
  go_wp2
  go_ret
  exact ⟨_, rfl, HR.out, rfl⟩
/-- the bytes of a list's bits -/
def packed (l : List Nat) : List Nat := putAll [] 0 (bitsL l)
set_option maxHeartbeats 2000000 in
theorem Encode_calls (A : Option Addr) (cap : Nat) (l : List Nat) (w : World) (hC : (nat .u32).C w A l.length l) (hcap : l.length ≤ cap) (hl : ∀ i, gt l i < 4294967296) (hn : l.length ≤ 65536) :
    Calls Try.prog 18 #[.slice A l.length cap] w fun e w' => ∃ v, e = .returned (.tuple #[v, .int .i64 0]) ∧ Ow .u8 5 w' w.heap.size v (packed l) ∧ Below w.heap.size w w' := by
  go_enter Try.func18, Try.ntmps18
  go_wp2_with (go_at_call 36; refine (writes_calls A cap l w hC hcap hl hn).mono ?_; rintro e w1 ⟨g, s, c, rfl, ⟨⟨h1, v, hb, hR⟩, hG⟩, b1⟩; have c2 : w1.cell? ⟨g, 2, none⟩ = some v := (blk_cell hb 2).trans rfl; have HR := Aside0.mk (Ow.of_R hR); have B1 := Aside0.mk b1; clear b1 hR hb)
  refine (clip_calls v (packed l) w.heap.size w1 HR.out).mono ?_
  rintro e w2 ⟨v', rfl, h2, rfl⟩
  go_wp2
  go_ret2
  exact ⟨v', rfl, h2, B1.out⟩
set_option maxHeartbeats 2000000 in
theorem Cost_calls (A : Option Addr) (cap : Nat) (l : List Nat) (w : World) (hC : (nat .u32).C w A l.length l) (hcap : l.length ≤ cap) (hl : ∀ i, gt l i < 4294967296) (hn : l.length ≤ 65536) :
    Calls Try.prog 19 #[.slice A l.length cap] w fun e w' => e = .returned (.tuple #[.int .i64 (bitsL l).length, .int .i64 0]) ∧ Below w.heap.size w w' := by
  go_enter Try.func19, Try.ntmps19
  go_wp2_with (go_at_call 36; refine (writes_calls A cap l w hC hcap hl hn).mono ?_; rintro e w1 ⟨g, s, c, rfl, ⟨⟨h1, v, hb, hR⟩, hG⟩, b1⟩; have c3 : w1.cell? ⟨g, 3, none⟩ = some (.int .i64 (bitsL l).length) := (blk_cell hb 3).trans rfl; have B1 := Aside0.mk b1; clear b1 hR hb)
  go_ret2
  exact ⟨rfl, B1.out⟩
theorem Encode_many (A : Option Addr) (cap : Nat) (l : List Nat) (w : World) (hn : 65536 < l.length) :
    Calls Try.prog 18 #[.slice A l.length cap] w fun e w' => e = .returned (.tuple #[.slice none 0 0, .int .i64 172]) ∧ w = w' := by
  go_enter Try.func18, Try.ntmps18
  go_wp2_with (go_at_call 36; refine (writes_many A cap l w hn).mono ?_; rintro e w1 ⟨rfl, rfl⟩)
  go_ret2
  exact ⟨rfl, rfl⟩
theorem Cost_many (A : Option Addr) (cap : Nat) (l : List Nat) (w : World) (hn : 65536 < l.length) :
    Calls Try.prog 19 #[.slice A l.length cap] w fun e w' => e = .returned (.tuple #[.int .i64 0, .int .i64 172]) ∧ w = w' := by
  go_enter Try.func19, Try.ntmps19
  go_wp2_with (go_at_call 36; refine (writes_many A cap l w hn).mono ?_; rintro e w1 ⟨rfl, rfl⟩)
  go_ret2
  exact ⟨rfl, rfl⟩
end Go.Proofs.Ytpmmnjpimnapfaa.A
