import Derived.Test.YtpmmnjpimnapfaaF4
import Derived.Test.YtpmmnjpimnapfaaD1
import Derived.Test.YtpmmnjpimnapfaaE1
set_option linter.unusedVariables false
set_option linter.unusedSimpArgs false
namespace Go.Proofs.Ytpmmnjpimnapfaa.A
open Go.RowKit Go.Proofs.YtpmmnjpimnapfaaW.PrintWords Go.Proofs.YtpmmnjpimnapfaaW.PrintLast Go.Proofs.YtpmmnjpimnapfaaW.PrintMore

theorem cell_of_block {w w1 : World} {a : Addr} (h : w1.heap[a.block]? = w.heap[a.block]?) : w1.cell? a = w.cell? a := by simp [World.cell?, h]
theorem C_but {k : IntKind} {w w1 : World} {A : Option Addr} {n : Nat} {xs : List Nat} (h : (nat k).C w A n xs) (hb : ∀ ad, A = some ad → 0 < n → w1.heap[ad.block]? = w.heap[ad.block]?) : (nat k).C w1 A n xs := by
  refine Kd.C_of_reads (d := 0) ⟨h.1, h.2.1, fun hp => ?_⟩
  obtain ⟨ad, e, _⟩ := C_nat h 0 hp
  refine ⟨ad, e, fun j hj => ?_⟩
  obtain ⟨ad', e', hc⟩ := C_nat h j hj
  rw [e] at e'; injection e' with e'; subst e'
  have hbk : w1.heap[(ad.add j).block]? = w.heap[(ad.add j).block]? := by rw [block_add]; exact hb ad e hp
  rw [cell_of_block hbk]
  exact hc
theorem C_lt {k : IntKind} {w : World} {A : Option Addr} {n : Nat} {xs : List Nat} (h : (nat k).C w A n xs) : ∀ ad, A = some ad → 0 < n → ad.block < w.heap.size := by
  intro ad hA hp
  obtain ⟨ad', e, hc⟩ := C_nat h 0 hp
  rw [hA] at e; injection e with e; subst e
  have := World.block_lt_of_cell? w _ hc
  rwa [block_add] at this
theorem blk_new2 (w : World) (o o' : Obj) : ((w.alloc o).alloc o').heap[w.heap.size + 1]? = some o' := by
  have := blk_new (w.alloc o) o'
  simpa using this
/-- what a list is spelled as; what it costs; the error -/
def encX (l : List Nat) : List Nat := if l.length ≤ 65536 then packed l else []
def costX (l : List Nat) : Nat := if l.length ≤ 65536 then (bitsL l).length else 0
def errX (l : List Nat) : Nat := if l.length ≤ 65536 then 0 else 172
theorem encX_len (l : List Nat) : (encX l).length ≤ 4194304 := by
  unfold encX
  split
  · rw [(packed_bits l).1.1]
    have := stepsBits_length l 16 1
    have h : (bitsL l).length = (stepsBits l 16 1).length := rfl
    omega
  · simp
section
variable (A : Option Addr) (cap : Nat) (l : List Nat) (w : World) (hC : (nat .u32).C w A l.length l) (hcap : l.length ≤ cap) (hl : ∀ i, gt l i < 4294967296)
include hC hcap hl
theorem Encode_any : Calls Try.prog 18 #[.slice A l.length cap] w fun e w' => ∃ v, e = .returned (.tuple #[v, .int .i64 (errX l)]) ∧ Ow .u8 5 w' w.heap.size v (encX l) ∧ Below w.heap.size w w' := by
  unfold encX errX
  by_cases h : l.length ≤ 65536
  · rw [if_pos h, if_pos h]; exact Encode_calls A cap l w hC hcap hl h
  · rw [if_neg h, if_neg h]
    refine (Encode_many A cap l w (by omega)).mono ?_
    rintro e w' ⟨rfl, rfl⟩
    exact ⟨_, rfl, .inl ⟨rfl, rfl⟩, Below.refl _ _⟩
theorem Cost_any : Calls Try.prog 19 #[.slice A l.length cap] w fun e w' => e = .returned (.tuple #[.int .i64 (costX l), .int .i64 (errX l)]) ∧ Below w.heap.size w w' := by
  unfold costX errX
  by_cases h : l.length ≤ 65536
  · rw [if_pos h, if_pos h]; exact Cost_calls A cap l w hC hcap hl h
  · rw [if_neg h, if_neg h]
    refine (Cost_many A cap l w (by omega)).mono ?_
    rintro e w' ⟨rfl, rfl⟩
    exact ⟨rfl, Below.refl _ _⟩
theorem rCost_any : Calls Try.prog 17 #[.slice A l.length cap] w fun e w' => e = .returned (.tuple #[.int .i64 (costX l), .int .i64 (errX l)]) ∧ Below w.heap.size w w' := by
  unfold costX errX
  by_cases h : l.length ≤ 65536
  · rw [if_pos h, if_pos h]; exact rCost_calls A cap l w hC hcap hl h
  · rw [if_neg h, if_neg h]
    refine (rCost_many A cap l w (by omega)).mono ?_
    rintro e w' ⟨rfl, rfl⟩
    exact ⟨rfl, Below.refl _ _⟩
theorem rEncode_any : Calls Try.prog 16 #[.slice A l.length cap] w fun e w' => ∃ v, e = .returned (.tuple #[v, .int .i64 (errX l)]) ∧ Ow .u8 5 w' w.heap.size v (encX l) ∧ Below w.heap.size w w' := by
  unfold encX errX
  by_cases h : l.length ≤ 65536
  · rw [if_pos h, if_pos h]
    refine (rEncode_calls A cap l w hC hcap hl h).mono ?_
    rintro e w' ⟨v, h1, h2, h3⟩
    exact ⟨v, h1, Ow.of_R h2, h3⟩
  · rw [if_neg h, if_neg h]
    refine (rEncode_many A cap l w (by omega)).mono ?_
    rintro e w' ⟨rfl, rfl⟩
    exact ⟨_, rfl, .inl ⟨rfl, rfl⟩, Below.refl _ _⟩
end
/-- what bytes are read as -/
def decX (b : List Nat) (n : Int) : List Nat × Nat := if n < 0 ∨ 65536 < n then ([], 172) else match dec b n.toNat with
  | .ok l => (l, 0)
  | .err e => ([], e)
section
variable (A : Option Addr) (cap : Nat) (b : List Nat) (n : Int) (w : World) (hC : (nat .u8).C w A b.length b) (hcap : b.length ≤ cap) (hl : b.length < 1152921504606846976) (hb8 : ∀ i, gt b i < 256)
theorem of_post {b : List Nat} {m : Nat} {w : World} {e : Ending} {w' : World} (h : DecPost (dec b m) w e w') : ∃ v, e = .returned (.tuple #[v, .int .i64 (match dec b m with | .ok l => ((l, 0) : List Nat × Nat) | .err e => ([], e)).2]) ∧ Ow .u32 23 w' w.heap.size v (match dec b m with | .ok l => ((l, 0) : List Nat × Nat) | .err e => ([], e)).1 ∧ Below w.heap.size w w' := by
  rcases hd : dec b m with l | k
  · rw [hd] at h
    obtain ⟨⟨v, h1, h2⟩, h3⟩ := h
    exact ⟨v, h1, Ow.of_R h2, h3⟩
  · rw [hd] at h
    obtain ⟨h1, h3⟩ := h
    exact ⟨_, h1, .inl ⟨rfl, rfl⟩, h3⟩
include hC hcap hl hb8
theorem Decode_any : Calls Try.prog 27 #[.slice A b.length cap, .int .i64 n] w fun e w' => ∃ v, e = .returned (.tuple #[v, .int .i64 (decX b n).2]) ∧ Ow .u32 23 w' w.heap.size v (decX b n).1 ∧ Below w.heap.size w w' := by
  unfold decX
  by_cases h : n < 0 ∨ 65536 < n
  · rw [if_pos h]
    refine (Decode_many A cap b n w h).mono ?_
    rintro e w' ⟨rfl, rfl⟩
    exact ⟨_, rfl, .inl ⟨rfl, rfl⟩, Below.refl _ _⟩
  · rw [if_neg h]
    obtain ⟨m, rfl⟩ : ∃ m : Nat, n = m := ⟨n.toNat, by omega⟩
    rw [Int.toNat_natCast]
    exact (Decode_calls A cap b m w hC hcap hl hb8 (by omega)).mono fun e w' h => of_post h
theorem rDecode_any : Calls Try.prog 26 #[.slice A b.length cap, .int .i64 n] w fun e w' => ∃ v, e = .returned (.tuple #[v, .int .i64 (decX b n).2]) ∧ Ow .u32 23 w' w.heap.size v (decX b n).1 ∧ Below w.heap.size w w' := by
  unfold decX
  by_cases h : n < 0 ∨ 65536 < n
  · rw [if_pos h]
    refine (rDecode_many A cap b n w h).mono ?_
    rintro e w' ⟨rfl, rfl⟩
    exact ⟨_, rfl, .inl ⟨rfl, rfl⟩, Below.refl _ _⟩
  · rw [if_neg h]
    obtain ⟨m, rfl⟩ : ∃ m : Nat, n = m := ⟨n.toNat, by omega⟩
    rw [Int.toNat_natCast]
    exact (rDecode_calls A cap b m w hC hcap hl hb8 (by omega)).mono fun e w' h => of_post h
end
theorem Markeds.new {k : IntKind} {M : Int} {e : TypeId} {w : World} {B : Nat} {hs : List Hd} {ms : List Int} (H : Markeds k M e w B hs ms) : ∀ r, w.heap.size ≤ r → Apart hs r := by
  intro r hr h hh ad had
  obtain ⟨i, hi, rfl⟩ := List.getElem_of_mem hh
  rcases H.2 i hi (by have := H.1; omega) with ⟨h1, _⟩ | ⟨r', cur, h1, hb, h2, _⟩
  · rw [h1] at had; cases had
  · rw [h1] at had; injection had with had; subst had
    have := blk_lt h2
    simp only
    omega
theorem bookBytes (g B Bn : Nat) (m : Int) (hs : List Hd) (ms : List Int) (w : World) (v : Value) (xs : List Nat) (hK : BkBytes w g B hs ms) (hgB : g < B) (hBs : B ≤ w.heap.size) (hv : Ow .u8 5 w Bn v xs) (hBn : B ≤ Bn) (hA : ∀ r, Bn ≤ r → Apart hs r) (hlen : hs.length ≤ 1000000) :
    Calls Try.prog 22 #[.pointer (some ⟨g, 0, none⟩), v, .int .i64 m] w fun e w' => e = .returned (.tuple #[]) ∧ ∃ h, BkBytes w' g B (hs ++ [h]) (ms ++ [m]) ∧ But B g w w' := by
  rcases hv with ⟨rfl, _⟩ | ⟨r, c, cur, rfl, h1, h2, h3, h4, h5, h6⟩
  · exact (nilBytes g B m hs ms w hK hgB hBs hlen).mono fun e w' ⟨a, b, c⟩ => ⟨a, _, b, c⟩
  · exact (markBytes g B r xs.length c cur m hs ms w hK hgB hBs h2 (by omega) h3 h4 h5 (hA r h1) hlen).mono fun e w' ⟨a, b, c⟩ => ⟨a, _, b, c⟩
theorem bookSamples (g B Bn : Nat) (m : Int) (hs : List Hd) (ms : List Int) (w : World) (v : Value) (xs : List Nat) (hK : BkSamples w g B hs ms) (hgB : g < B) (hBs : B ≤ w.heap.size) (hv : Ow .u32 23 w Bn v xs) (hBn : B ≤ Bn) (hA : ∀ r, Bn ≤ r → Apart hs r) (hlen : hs.length ≤ 1000000) :
    Calls Try.prog 29 #[.pointer (some ⟨g, 0, none⟩), v, .int .i64 m] w fun e w' => e = .returned (.tuple #[]) ∧ ∃ h, BkSamples w' g B (hs ++ [h]) (ms ++ [m]) ∧ But B g w w' := by
  rcases hv with ⟨rfl, _⟩ | ⟨r, c, cur, rfl, h1, h2, h3, h4, h5, h6⟩
  · exact (nilSamples g B m hs ms w hK hgB hBs hlen).mono fun e w' ⟨a, b, c⟩ => ⟨a, _, b, c⟩
  · exact (markSamples g B r xs.length c cur m hs ms w hK hgB hBs h2 (by omega) h3 h4 h5 (hA r h1) hlen).mono fun e w' ⟨a, b, c⟩ => ⟨a, _, b, c⟩
end Go.Proofs.Ytpmmnjpimnapfaa.A
