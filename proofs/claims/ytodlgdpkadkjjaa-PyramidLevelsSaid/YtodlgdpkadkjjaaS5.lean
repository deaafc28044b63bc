import Derived.Test.YtodlgdpkadkjjaaS4
section
set_option linter.unusedVariables false
set_option linter.unusedSimpArgs false
namespace Go.Proofs.Ytodlgdpkadkjjaa.A
open Go.RowKit Go.Shelf Go.Proofs.YtodlgdpkadkjjaaW.PrintWords Go.Proofs.YtodlgdpkadkjjaaW.PrintLast Go.Proofs.YtodlgdpkadkjjaaW.PrintMore Go.Proofs.Ytodlgdpkadkjjaa.PPyramidLevels
/-- A slice of numbers in new memory: nil, or at the begin of a block of its own (the block may go on behind the capacity). -/
def Ow (k : IntKind) (e : TypeId) (w : World) (B : Nat) (v : Value) (xs : List Nat) : Prop :=
 (v = .slice none 0 0 ∧ xs = []) ∨ ∃ g cap cur, v = .slice (some ⟨g, 0, none⟩) xs.length cap ∧ B ≤ g ∧ w.heap[g]? = some (.cells cur e (0, 0)) ∧ xs.length ≤ cap ∧ cap ≤ cur.size ∧ cap ≤ 9223372036854775807 ∧ cur.toList.take xs.length = xs.map (fun x : Nat => Value.int k x)
section
variable {k : IntKind} {e : TypeId} {w w1 : World} {B B' : Nat} {v : Value} {xs : List Nat}
theorem Ow.of_R (h : Kd.R (nat k) e w B (fun _ => True) v xs) : Ow k e w B v xs := by
 obtain ⟨h1, h2⟩ := Kd.own_of_R h
 rcases h2 with ⟨rfl, h0⟩ | ⟨g, cap, cur, rfl, hb, hh, hnc, hcm, hcs, ht⟩
 ·exact .inl ⟨rfl, List.eq_nil_of_length_eq_zero h0⟩
 ·exact .inr ⟨g, cap, cur, rfl, hb, hh, hnc, by omega, by simp only [maxLen] at hcm; omega, by rw [Nat.mul_one] at ht; exact ht⟩
theorem Ow.mono (h : Ow k e w B v xs) (hb : Below w.heap.size w w1) (hB : B' ≤ B) : Ow k e w1 B' v xs := by
 rcases h with h | ⟨g, cap, cur, rfl, h1, h2, r⟩
 ·exact .inl h
 ·exact .inr ⟨g, cap, cur, rfl, by omega, blk_below h2 hb, r⟩
theorem Ow.C (h : Ow k e w B v xs) : ∃ A cap, v = .slice A xs.length cap ∧ xs.length ≤ cap ∧ (nat k).C w A xs.length xs := by
 rcases h with ⟨rfl, rfl⟩ | ⟨g, cap, cur, rfl, h1, h2, h3, h4, h5, h6⟩
 ·exact ⟨none, 0, rfl, by simp, Kd.C_nil _ _⟩
 ·refine ⟨_, cap, rfl, h3, Kd.C_of_reads (d := 0) ⟨rfl, by omega, fun hp => ⟨_, rfl, fun j hj => ?_⟩⟩⟩
  rw [add_plain, blk_cell h2 j]
  have h7 : cur.toList[j]? = (xs.map (fun x : Nat => Value.int k x))[j]? := by rw [← h6, List.getElem?_take, if_pos hj]
  rw [← Array.getElem?_toList, h7, List.getElem?_map, List.getElem?_eq_getElem hj, Option.map_some]
  simp [List.getElem?_eq_getElem hj]
end
theorem block_add (a : Addr) (n : Nat) : (a.add n).block = a.block := by unfold Addr.add; split <;> rfl
theorem cell_of_block {w w1 : World} {a : Addr} (h : w1.heap[a.block]? = w.heap[a.block]?) : w1.cell? a = w.cell? a := by simp [World.cell?, h]
theorem C_but {k : IntKind} {w w1 : World} {A : Option Addr} {n : Nat} {xs : List Nat} (h : (nat k).C w A n xs) (hb : ∀ ad, A = some ad → 0 < n → w1.heap[ad.block]? = w.heap[ad.block]?) : (nat k).C w1 A n xs := by
 refine Kd.C_of_reads (d := 0) ⟨h.1, h.2.1, fun hp => ?_⟩
 obtain ⟨ad, e, _⟩ := C_nat h 0 hp
 refine ⟨ad, e, fun j hj => ?_⟩
 obtain ⟨ad', e', hc⟩ := C_nat h j hj
 rw [e] at e'; injection e' with e'; subst e'
 have hbk : w1.heap[(ad.add j).block]? = w.heap[(ad.add j).block]? := by rw [block_add]; exact hb ad e hp
 rw [cell_of_block hbk]
 exact hc
theorem C_lt {k : IntKind} {w : World} {A : Option Addr} {n : Nat} {xs : List Nat} (h : (nat k).C w A n xs) : ∀ ad, A = some ad → 0 < n → ad.block < w.heap.size := by
 intro ad hA hp
 obtain ⟨ad', e, hc⟩ := C_nat h 0 hp
 rw [hA] at e; injection e with e; subst e
 have := World.block_lt_of_cell? w _ hc
 rwa [block_add] at this
theorem Markeds.new {k : IntKind} {M : Int} {e : TypeId} {w : World} {B : Nat} {hs : List Hd} {ms : List Int} (H : Markeds k M e w B hs ms) : ∀ r, w.heap.size ≤ r → Apart hs r := by
 intro r hr h hh ad had
 obtain ⟨i, hi, rfl⟩ := List.getElem_of_mem hh
 rcases H.2 i hi (by have := H.1; omega) with ⟨h1, _⟩ | ⟨r', cur, h1, hb, h2, _⟩
 ·rw [h1] at had; cases had
 ·rw [h1] at had; injection had with had; subst had
  have := blk_lt h2
  simp only
  omega
theorem Ow.move {e : TypeId} {w w1 : World} {B : Nat} {v : Value} {xs : List Nat} (h : Ow .u32 e w B v xs) (hm : ∀ (k : Nat) (cs : Array Value), w.heap[k]? = some (Obj.cells cs e (0, 0)) → w1.heap[k]? = w.heap[k]?) : Ow .u32 e w1 B v xs := by
 rcases h with h | ⟨g, cap, cur, rfl, h1, h2, r⟩
 ·exact .inl h
 ·exact .inr ⟨g, cap, cur, rfl, h1, (hm g cur h2).trans h2, r⟩
theorem Ow.PL {w : World} {B : Nat} {v : Value} {xs : List Nat} (h : Ow .u32 50 w B v xs) : ∃ A n c, v = .slice A n c ∧ n = xs.length ∧ PL w A n c xs := by
 obtain ⟨A, c, h1, h2, h3⟩ := h.C
 exact ⟨A, _, c, h1, rfl, h3, h2, rfl⟩
/-- what a function tells that tells a plane and an error -/
structure PO where
 x : Int
 y : Int
 s : List Nat
 e : Nat
def Out1 (w : World) (o : PO) (e : Ending) (w' : World) : Prop := ∃ v, e = .returned (.tuple #[.agg #[.int .i64 o.x, .int .i64 o.y, v], .int .i64 (o.e : Int)]) ∧ Ow .u32 50 w' w.heap.size v o.s ∧ Below w.heap.size w w'
def redO (x y : Int) (p : List Nat) : PO := if checkE x y p.length = 0 then ⟨((hf x.toNat : Nat) : Int), ((hf y.toNat : Nat) : Int), redS x.toNat y.toNat p, 0⟩ else ⟨0, 0, [], checkE x y p.length⟩
def expO (x y : Int) (p : List Nat) (u v : Int) : PO := if checkE x y p.length = 0 then (if sizeB u v = true ∧ hf u.toNat = x.toNat ∧ hf v.toNat = y.toNat then ⟨u, v, expS x.toNat y.toNat u.toNat v.toNat p, 0⟩ else ⟨0, 0, [], 141⟩) else ⟨0, 0, [], checkE x y p.length⟩
theorem out_bad {w : World} {E : Nat} {f : FuncId} {args : Array Value} (h : Calls Try.prog f args w fun e w' => e = .returned (.tuple #[.agg #[.int .i64 0, .int .i64 0, .slice none 0 0], .int .i64 (E : Int)]) ∧ Below w.heap.size w w') : Calls Try.prog f args w (Out1 w ⟨0, 0, [], E⟩) :=
 h.mono fun e w' h => ⟨_, h.1, .inl ⟨rfl, rfl⟩, h.2⟩
theorem out_ok {w : World} {X Y : Int} {L : List Nat} {f : FuncId} {args : Array Value} (h : Calls Try.prog f args w fun e w' => ∃ v, e = .returned (.tuple #[.agg #[.int .i64 X, .int .i64 Y, v], .int .i64 0]) ∧ (nat .u32).R 50 w' w.heap.size (fun _ => True) v L ∧ Below w.heap.size w w') : Calls Try.prog f args w (Out1 w ⟨X, Y, L, 0⟩) :=
 h.mono fun e w' ⟨v, h1, h2, h3⟩ => ⟨v, h1, Ow.of_R h2, h3⟩
theorem okP_of {W H : Nat} {p : List Nat} (hx : ∀ i, gt p i < 4294967296) (h1 : 0 < W) (h2 : 0 < H) (h3 : W ≤ 1024) (h4 : H ≤ 1024) (h5 : W * H ≤ 65536) (h6 : p.length = W * H) : (Pl.mk W H p).ok := ⟨h1, h2, h3, h4, h5, h6, hx⟩
section
variable {x y : Int} {A : Option Addr} {n c : Nat} {p : List Nat} {w : World}
theorem Reduce_any (h : PL w A n c p) (hx : ∀ i, gt p i < 4294967296) : Calls Try.prog 16 #[.agg #[.int .i64 x, .int .i64 y, .slice A n c]] w (Out1 w (redO x y p)) := by
 have hl := h.2.2
 have hn : n < 9223372036854775808 := by have := h.1.2.1; omega
 subst hl
 unfold redO
 by_cases hE : checkE x y p.length = 0
 ·rw [if_pos hE]
  obtain ⟨W, H, rfl, rfl, h1, h2, h3, h4, h5, h6⟩ := checkE_zero hE
  rw [Int.toNat_natCast, Int.toNat_natCast]
  exact out_ok (Reduce_ok W H p A _ c w (okP_of hx h1 h2 h3 h4 h5 h6) rfl h.1 h.2.1)
 ·rw [if_neg hE]; exact out_bad (Reduce_bad x y A _ c w hn hE)
theorem rExpand_any (u v : Int) (h : PL w A n c p) (hx : ∀ i, gt p i < 4294967296) : Calls Try.prog 15 #[.agg #[.int .i64 x, .int .i64 y, .slice A n c], .int .i64 u, .int .i64 v] w (Out1 w (expO x y p u v)) := by
 have hl := h.2.2
 have hn : n < 9223372036854775808 := by have := h.1.2.1; omega
 subst hl
 unfold expO
 by_cases hE : checkE x y p.length = 0
 ·rw [if_pos hE]
  obtain ⟨W, H, rfl, rfl, h1, h2, h3, h4, h5, h6⟩ := checkE_zero hE
  rw [Int.toNat_natCast, Int.toNat_natCast]
  have hp := okP_of hx h1 h2 h3 h4 h5 h6
  by_cases hS : sizeB u v = true
  ·obtain ⟨wn, hn', rfl, rfl, hs⟩ := sizeB_of hS
   rw [Int.toNat_natCast, Int.toNat_natCast]
   by_cases hW : hf wn = W
   ·by_cases hH : hf hn' = H
    ·rw [if_pos ⟨hS, hW, hH⟩]; exact out_ok (rExpand_ok W H p A _ c wn hn' w hp h hs hW hH)
    ·rw [if_neg (fun h => hH h.2.2)]; exact out_bad (rExpand_high W H p A _ c wn hn' w hp rfl hs hW hH)
   ·rw [if_neg (fun h => hW h.2.1)]; exact out_bad (rExpand_wide W H p A _ c wn hn' w hp rfl hs hW)
  ·rw [if_neg (fun h => hS h.1)]; exact out_bad (rExpand_size W H p A _ c u v w hp rfl (by simpa using hS))
 ·rw [if_neg hE]; exact out_bad (rExpand_bad x y A _ c u v w hn hE)
end
/-- the same plane -/
theorem sameP (x y : Int) {A A2 : Option Addr} {n c n2 c2 : Nat} {xs : List Nat} {w : World} (h : PL w A n c xs) (h2 : PL w A2 n2 c2 xs) (hl : xs.length < 4611686018427387904) :
    Calls Try.prog 18 #[.agg #[.int .i64 x, .int .i64 y, .slice A n c], .agg #[.int .i64 x, .int .i64 y, .slice A2 n2 c2]] w fun e w' => e = .returned (.bool true) ∧ Below w.heap.size w w' := by
 obtain ⟨h1, h3, rfl⟩ := h
 obtain ⟨h4, h5, rfl⟩ := h2
 have h := halidehelp_Plane.calls (xs.length + 1) x y A c (ints xs) x y A2 c2 (ints xs) true w (by rw [ints_length]; exact C_ints h1) (by rw [ints_length]; exact h3) (by rw [ints_length]; exact C_ints h4) (by rw [ints_length]; exact h5) (by
  rw [plane_f _ (by rw [ints_length]; omega) (by rw [ints_length]; exact hl)]
  simp)
 rw [ints_length] at h
 exact h
theorem bookSamples (g B Bn : Nat) (m : Int) (hs : List Hd) (ms : List Int) (w : World) (A : Option Addr) (n c : Nat) (xs : List Nat) (hK : BkSamples w g B hs ms) (hgB : g < B) (hBs : B ≤ w.heap.size) (hv : Ow .u32 50 w Bn (.slice A n c) xs) (hBn : B ≤ Bn) (hA : ∀ ad, A = some ad → Apart hs ad.block) (hlen : hs.length ≤ 1000000) :
    Calls Try.prog 56 #[.pointer (some ⟨g, 0, none⟩), .slice A n c, .int .i64 m] w fun e w' => e = .returned (.tuple #[]) ∧ (∃ k, BkSamples w' g B (hs ++ [(A, k, k)]) (ms ++ [m])) ∧ But B g w w' ∧ KeepB A w w' := by
 rcases hv with ⟨e, _⟩ | ⟨r, c', cur, e, h1, h2, h3, h4, h5, h6⟩
 ·injection e with e1 e2 e3
  subst e1 e2 e3
  exact (nilSamples g B m hs ms w hK hgB hBs hlen).mono fun e w' ⟨a, b, c, d⟩ => ⟨a, ⟨_, b⟩, c, d⟩
 ·injection e with e1 e2 e3
  subst e1 e2 e3
  exact (markSamples g B r xs.length c cur m hs ms w hK hgB hBs h2 (by omega) h3 h4 h5 (hA _ rfl) hlen).mono fun e w' ⟨a, b, c, d⟩ => ⟨a, ⟨_, b⟩, c, d⟩
theorem BkSamples.move {w w1 : World} {g B : Nat} {hs : List Hd} {ms : List Int} (h : BkSamples w g B hs ms) (hm : ∀ (k : Nat) (cs : Array Value) (t : TypeId), w.heap[k]? = some (Obj.cells cs t (0, 0)) → t ≠ 25 → w1.heap[k]? = w.heap[k]?) : BkSamples w1 g B hs ms := by
 obtain ⟨v, vm, h1, h2, h3, h4⟩ := h
 refine ⟨v, vm, (hm g _ _ h1 (by decide)).trans h1, ?_, ?_, h4.move fun r cur hr => hm r cur _ hr (by decide)⟩
 ·exact Kd.R_mono (Kd.R_move (Kd.R_bound h2) (fun k hk => by
   obtain ⟨_, _, _, q, hq, cells, hc⟩ := hk
   have e : q = 23 := by simpa [hdr, Kd.scalar] using hq
   exact hm k cells q hc (by rw [e]; decide))) (fun _ hk => hk.1)
 ·exact Kd.R_mono (Kd.R_move (Kd.R_bound h3) (fun k hk => by
   obtain ⟨_, _, _, q, hq, cells, hc⟩ := hk
   have e : q = 3 := by simpa [intK, Kd.scalar] using hq
   exact hm k cells q hc (by rw [e]; decide))) (fun _ hk => hk.1)
theorem RmS.moveR {w w1 : World} {g B : Nat} {hs ws : List Hd} (h : RmS w g B hs ws) (hm : ∀ (k : Nat) (cs : Array Value) (t : TypeId), w.heap[k]? = some (Obj.cells cs t (0, 0)) → t ≠ 25 → w1.heap[k]? = w.heap[k]?) : RmS w1 g B hs ws := RmS.moveT 25 (by decide) (by decide) (by decide) h hm
theorem BkSamples.new {w : World} {g B : Nat} (h : w.heap[g]? = some (.cells #[.slice none 0 0, .slice none 0 0, .slice none 0 0, .slice none 0 0, .slice none 0 0, .slice none 0 0, .slice none 0 0, .slice none 0 0] 34 (0, 0))) : BkSamples w g B [] [] := ⟨_, _, h, Kd.R_nil _ _ _ _ _, Kd.R_nil _ _ _ _ _, Markeds.nil _ _ _ _ _⟩
theorem BkSamples.apart {w : World} {g B : Nat} {hs : List Hd} {ms : List Int} (h : BkSamples w g B hs ms) : ∀ r, w.heap.size ≤ r → Apart hs r := by obtain ⟨_, _, _, _, _, h⟩ := h; exact Markeds.new h
theorem BkSamples.st {w w1 : World} {g B g15 : Nat} {hs : List Hd} {ms : List Int} {cs : Array Value} (h : BkSamples w g B hs ms) (hd : w.heap[g15]? = some (.cells cs 25 (0, 0))) (hst : ∀ k, k ≠ g15 → w1.heap[k]? = w.heap[k]?) : BkSamples w1 g B hs ms := h.move fun k cs' t hk ht => hst k (fun e => by subst e; rw [hd] at hk; injection hk with hk; injection hk with _ e; exact ht e.symm)
theorem Ow.st {w w1 : World} {B g15 : Nat} {v : Value} {xs : List Nat} {cs : Array Value} (h : Ow .u32 50 w B v xs) (hd : w.heap[g15]? = some (.cells cs 25 (0, 0))) (hst : ∀ k, k ≠ g15 → w1.heap[k]? = w.heap[k]?) : Ow .u32 50 w1 B v xs := h.move fun k cs' hk => hst k (fun e => by subst e; rw [hd] at hk; injection hk with hk; injection hk with _ e; exact absurd e (by decide))
theorem But.step {g : Nat} {W0 w w' : World} (T : But W0.heap.size g W0 w) (hb : Below w.heap.size w w') : But W0.heap.size g W0 w' := T.trans (.of_below (hb.mono T.size))
theorem But.at_ {B g k : Nat} {a b : World} {o : Obj} (h : But B g a b) (hk : a.heap[k]? = some o) (hlt : k < B) (hne : k ≠ g) : b.heap[k]? = some o := (h.block k hlt hne).trans hk
theorem But.PL {g n c : Nat} {W0 w : World} {A : Option Addr} {xs : List Nat} (h : But W0.heap.size g W0 w) (hL : PL W0 A n c xs) (hne : ∀ ad, A = some ad → 0 < n → ad.block ≠ g) : PL w A n c xs :=
 ⟨C_but hL.1 fun ad hA hp => h.block _ (C_lt hL.1 ad hA hp) (hne ad hA hp), hL.2.1, hL.2.2⟩
theorem below_set1 (w : World) {B : Nat} (g i : Nat) (u : Value) (h : B ≤ g) : Below B w (w.setCell ⟨g, i, none⟩ u) := (Below.refl B w).setCell (p := ⟨g, i, none⟩) h u
def Keeps (w w' : World) : Prop := ∀ (k : Nat) (cs : Array Value) (t : TypeId), w.heap[k]? = some (Obj.cells cs t (0, 0)) → t = 50 ∨ t = 25 → w'.heap[k]? = w.heap[k]?
theorem Keeps.below {a b : World} (h : Below a.heap.size a b) : Keeps a b := fun i cs t hi _ => h.block i (blk_lt hi)
set_option maxHeartbeats 4000000 in
set_option maxRecDepth 100000 in
theorem roomPlane (g B : Nat) (x y : Int) (A : Option Addr) (n c : Nat) (p : List Nat) (hs ws : List Hd) (w : World) (hK : RmS w g B hs ws) (hgB : g < B) (hBs : B ≤ w.heap.size) (hC : PL w A n c p) (hb : n * 4 ≤ 140737488351232) (hlen : hs.length ≤ 4000000000000) :
    Calls Try.prog 13 #[.pointer (some ⟨g, 0, none⟩), .agg #[.int .i64 x, .int .i64 y, .slice A n c]] w fun e w' => ∃ r c3 hs' ws', e = .returned (.agg #[.int .i64 x, .int .i64 y, .slice (some ⟨r, 0, none⟩) n c3]) ∧ PL w' (some ⟨r, 0, none⟩) n c3 p ∧ w.heap.size ≤ r ∧ RmS w' g B hs' ws' ∧ hs'.length = hs.length + 1 ∧ But B g w w' ∧ Keeps w w' ∧ (∃ cells, w'.heap[r]? = some (Obj.cells cells 50 (0, 0))) := by
 have hu25 := Try.underlying25
 obtain ⟨hl0, hl1, rfl⟩ := hC
 have HCA : Aside0 (PL w A p.length c p) := ⟨⟨hl0, hl1, rfl⟩⟩
 have HK := Aside0.mk hK
 clear hl0 hl1 hK
 obtain ⟨n, hn⟩ : ∃ n, p.length = n := ⟨_, rfl⟩
 have HN := Aside0.mk hn
 have HC : Aside0 (PL w A n c p) := ⟨by rw [← hn]; exact HCA.out⟩
 clear HCA
 have hb : p.length * 4 ≤ 140737488351232 := hb
 have HLD := Aside0.mk (fun (W : World) (h1 : RmS W g B hs ws) (h2 : B ≤ W.heap.size) (h3 : PL W A n c p) => (by have h := lend g B A c p hs ws W h1 h2 (by rw [hn]; exact h3.1) (by rw [hn]; exact h3.2.1) hb hlen; rw [hn] at h; exact h : Calls Try.prog 43 #[.pointer (some ⟨g, 0, none⟩), .slice A n c] W fun e w' => ∃ r c cells hs' ws', e = .returned (.slice (some ⟨r, 0, none⟩) n c) ∧ n ≤ c ∧ W.heap.size ≤ r ∧ (nat .u32).C w' (some ⟨r, 0, none⟩) n p ∧ w'.heap[r]? = some (.cells cells 50 (0, 0)) ∧ RmS w' g B hs' ws' ∧ hs'.length = hs.length + 1 ∧ But B g W w' ∧ Keeps W w'))
 rw [hn]
 clear hn hb
 go_enter Try.func13, Try.ntmps13
 go_wp2_with (first | ((with_reducible refine gate_dst (N := 3) rfl ?_); refine box_event ?hg (N := 3) ?hd (cs := #[.int .i64 x, .int .i64 y, .slice A n c]) (t := 25) ?hr ?_; (case hd => rfl); (case hg => rfl); (case hr => first | (go_simp; done) | (go_simp; rfl)); intro gP hg_ w1 hm_ hb_; have P1 := Aside0.mk (hm_); have B1 := Aside0.mk (hb_); have GP := Aside0.mk (show w.heap.size ≤ gP by rw [hg_]; exact Nat.le_refl _); clear hm_ hb_ hg_) | ((with_reducible refine gate_dst (N := 4) rfl ?_); refine box_event ?hg (N := 4) ?hd (cs := #[.int .i64 0, .int .i64 0, .slice none 0 0]) (t := 25) ?hr ?_; (case hd => rfl); (case hg => rfl); (case hr => first | (go_simp; done) | (go_simp; rfl)); intro gR hg_ w2 hm_ hb_; have P2 := Aside0.mk (blk_below P1.out hb_); have R2 := Aside0.mk (hm_); have B2 := Aside0.mk (below_step B1.out hb_); have GR := Aside0.mk (show w.heap.size ≤ gR by rw [hg_]; exact below_size B1.out); have NPR := Aside0.mk (show gP ≠ gR by rw [hg_]; have := blk_lt P1.out; omega); have p0 := (blk_cell P2.out 0).trans rfl; have p1 := (blk_cell P2.out 1).trans rfl; have p2 := (blk_cell P2.out 2).trans rfl; have fp0 := blk_frozen P2.out 0; have fp1 := blk_frozen P2.out 1; have fp2 := blk_frozen P2.out 2; clear hm_ hb_ hg_) | (go_at_call 43; refine (HLD.out _ (HK.out.below B2.out) (Nat.le_trans hBs B2.out.size) (HC.out.below B2.out)).mono ?_; rintro e w3 ⟨r, c3, cells3, hs3, ws3, rfl, hc3, hr3, hC3, hb3, hK3, hl3, hT3, hQ3⟩; have C3 := Aside0.mk (hC3); have K3 := Aside0.mk (hK3); have T3 := Aside0.mk (hT3); have BK3 := Aside0.mk (hb3); have HC3 := Aside0.mk (hc3); have HL3 := Aside0.mk (hl3); have HR3 := Aside0.mk (hr3); have P3 := Aside0.mk ((hQ3 gP _ _ P2.out (.inr rfl)).trans P2.out); have R3 := Aside0.mk ((hQ3 gR _ _ R2.out (.inr rfl)).trans R2.out); have Q3 := Aside0.mk (hQ3); clear hC3 hK3 hT3 hb3 hQ3 hc3 hl3 hr3 p0 p1 p2 fp0 fp1 fp2; have p2 := (blk_cell P3.out 2).trans rfl; have fp2 := blk_frozen P3.out 2; have P4 := Aside0.mk (show ∀ u, (w3.setCell ⟨gP, 2, none⟩ u).heap[gP]? = some (.cells #[.int .i64 x, .int .i64 y, u] 25 (0, 0)) from fun u => (blk_set P3.out 2 u).trans rfl)) | ((with_reducible refine gate_dst (N := 10) rfl ?_); refine loadP_event rfl rfl gP _ _ _ rfl (P4.out _) ?_) | ((with_reducible refine gate_store (p := 4) rfl ?_); refine storeP_event rfl rfl rfl gR x y (some ⟨r, 0, none⟩) n c3 _ _ _ rfl rfl ((Below.heap_setCell w3 ⟨gP, 2, none⟩ _ gR (fun h => NPR.out h.symm)).trans R3.out) ?_; intro w5 hm_ hst_ hbl_; have R5 := Aside0.mk (hm_); have ST5 := Aside0.mk (show ∀ k, k ≠ gP → k ≠ gR → w5.heap[k]? = w3.heap[k]? from fun k h1 h2 => (hst_ k h2).trans (Below.heap_setCell w3 ⟨gP, 2, none⟩ _ k h1)); have SZ5 := Aside0.mk (hbl_ 0 (Nat.zero_le _)); have BB5 := Aside0.mk (show Below w.heap.size w3 w5 from (below_set1 w3 gP 2 _ GP.out).trans (hbl_ _ GR.out)); clear hm_ hst_ hbl_))
 refine bodyPost_ret (results_cell_row rfl _ _ gR 25 #[.int .i64 x, .int .i64 y, .slice (some ⟨r, 0, none⟩) n c3] (0, 0) _ rfl R5.out Try.underlying25 rfl (by kernel_rfl)) rfl ?_
 have ne : ∀ (k : Nat) (cs : Array Value) (t : TypeId), w3.heap[k]? = some (Obj.cells cs t (0, 0)) → t ≠ 25 → w5.heap[k]? = w3.heap[k]? := fun k cs t hk ht => ST5.out k (fun e => by subst e; rw [P3.out] at hk; injection hk with hk; injection hk with _ e; exact ht e.symm) (fun e => by subst e; rw [R3.out] at hk; injection hk with hk; injection hk with _ e; exact ht e.symm)
 refine ⟨r, c3, hs3, ws3, rfl, ⟨C_at C3.out (ne r cells3 50 BK3.out (by decide)), HC3.out, HN.out⟩, Nat.le_trans B2.out.size HR3.out, K3.out.moveR ne, HL3.out, ((But.of_below (B2.out.mono hBs)).trans T3.out).trans (.of_below (BB5.out.mono hBs)), ?_, ⟨cells3, (ne r cells3 50 BK3.out (by decide)).trans BK3.out⟩⟩
 intro k cs t hk ht
 have h1 := B2.out.block k (blk_lt hk)
 have h2 := Q3.out k cs t (h1.trans hk) ht
 exact (BB5.out.block k (blk_lt hk)).trans (h2.trans h1)
theorem bookPlane (g B Bn : Nat) (x y m : Int) (A : Option Addr) (n c : Nat) (hs : List Hd) (ms : List Int) (w : World) (xs : List Nat) (hK : BkSamples w g B hs ms) (hgB : g < B) (hBs : B ≤ w.heap.size) (hv : Ow .u32 50 w Bn (.slice A n c) xs) (hBn : B ≤ Bn) (hA : ∀ ad, A = some ad → Apart hs ad.block) (hlen : hs.length ≤ 1000000) :
    Calls Try.prog 19 #[.pointer (some ⟨g, 0, none⟩), .agg #[.int .i64 x, .int .i64 y, .slice A n c], .int .i64 m] w fun e w' => e = .returned (.tuple #[]) ∧ (∃ k, BkSamples w' g B (hs ++ [(A, k, k)]) (ms ++ [m])) ∧ But B g w w' ∧ KeepB A w w' := by
 have hu25 := Try.underlying25
 have HK := Aside0.mk hK
 have HV := Aside0.mk hv
 have HA := Aside0.mk hA
 clear hK hv hA
 go_enter Try.func19, Try.ntmps19
 go_wp2_with (first | ((with_reducible refine gate_dst (N := 4) rfl ?_); refine box_event ?hg (N := 4) ?hd (cs := #[.int .i64 x, .int .i64 y, .slice A n c]) (t := 25) ?hr ?_; (case hd => rfl); (case hg => rfl); (case hr => first | (go_simp; done) | (go_simp; rfl)); intro gP hg_ w1 hm_ hb_; have P1 := Aside0.mk (hm_); have B1 := Aside0.mk (hb_); have p0 := (blk_cell P1.out 0).trans rfl; have p1 := (blk_cell P1.out 1).trans rfl; have p2 := (blk_cell P1.out 2).trans rfl; clear hm_ hb_ hg_) | (go_at_call 56; refine (bookSamples g B Bn m hs ms _ A n c xs (HK.out.below B1.out) hgB (Nat.le_trans hBs B1.out.size) (Ow.mono HV.out B1.out (Nat.le_refl _)) hBn HA.out hlen).mono ?_; rintro e w3 ⟨rfl, hB3, hT3, hZ3⟩; have HB3 := Aside0.mk (hB3); have T3 := Aside0.mk (hT3); have Z3 := Aside0.mk (hZ3); clear hB3 hT3 hZ3))
 go_end0
 exact ⟨rfl, HB3.out, (But.of_below (B1.out.mono hBs)).trans T3.out, (KeepB.below B1.out).trans Z3.out⟩
end Go.Proofs.Ytodlgdpkadkjjaa.A
end
section
set_option linter.unusedVariables false
set_option linter.unusedSimpArgs false
namespace Go.Proofs.Ytodlgdpkadkjjaa.A
open Go.RowKit Go.Shelf Go.Proofs.YtodlgdpkadkjjaaW.PrintWords Go.Proofs.YtodlgdpkadkjjaaW.PrintLast Go.Proofs.YtodlgdpkadkjjaaW.PrintMore Go.Proofs.Ytodlgdpkadkjjaa.PPyramidLevels
theorem Ow.apart {w : World} {B n c : Nat} {A : Option Addr} {xs : List Nat} {hs : List Hd} (h : Ow .u32 50 w B (.slice A n c) xs) (ha : ∀ r, B ≤ r → Apart hs r) : ∀ ad, A = some ad → Apart hs ad.block := by
 rcases h with ⟨h, _⟩ | ⟨r, cap, cur, e, h1, _⟩
 ·injection h with h _ _
  intro ad hA
  rw [h] at hA
  cases hA
 ·injection e with e _ _
  intro ad hA
  rw [e] at hA
  injection hA with hA
  subst hA
  exact ha _ h1
theorem Out_as {f : FuncId} {args : Array Value} {w : World} {o : PO} {ax ay : Int} {al : List Nat} {ae : Nat} (h : Calls Try.prog f args w (Out1 w o)) (e : o = ⟨ax, ay, al, ae⟩) :
    Calls Try.prog f args w fun e w' => ∃ A n c, e = .returned (.tuple #[.agg #[.int .i64 ax, .int .i64 ay, .slice A n c], .int .i64 (ae : Int)]) ∧ Ow .u32 50 w' w.heap.size (.slice A n c) al ∧ n = al.length ∧ PL w' A n c al ∧ Below w.heap.size w w' := by
 subst e
 refine h.mono ?_
 rintro e w' ⟨v, rfl, hO, hb⟩
 obtain ⟨A, n, c, rfl, hn, hL⟩ := hO.PL
 exact ⟨A, n, c, rfl, hO, hn, hL, hb⟩
theorem Ow.asPL {w : World} {B n c : Nat} {A : Option Addr} {xs : List Nat} (h : Ow .u32 50 w B (.slice A n c) xs) : Go.Proofs.Ytodlgdpkadkjjaa.A.PL w A n c xs := by
 obtain ⟨A', n', c', e, hn, hL⟩ := h.PL
 injection e with e1 e2 e3
 subst e1 e2 e3
 exact hL
theorem Ow.ne {w : World} {B n c g : Nat} {A : Option Addr} {xs : List Nat} (h : Ow .u32 50 w B (.slice A n c) xs) (hg : g < B) : ∀ ad, A = some ad → 0 < n → ad.block ≠ g := by
 rcases h with ⟨h, _⟩ | ⟨r, cap, cur, e, h1, _⟩
 ·injection h with h _ _
  intro ad hA
  rw [h] at hA
  cases hA
 ·injection e with e _ _
  intro ad hA _
  rw [e] at hA
  injection hA with hA
  subst hA
  show r ≠ g
  omega

end Go.Proofs.Ytodlgdpkadkjjaa.A
end
section
set_option linter.unusedVariables false
set_option linter.unusedSimpArgs false
namespace Go.Proofs.Ytodlgdpkadkjjaa.A
open Go.RowKit Go.Shelf Go.Proofs.YtodlgdpkadkjjaaW.PrintWords Go.Proofs.YtodlgdpkadkjjaaW.PrintLast Go.Proofs.YtodlgdpkadkjjaaW.PrintMore Go.Proofs.Ytodlgdpkadkjjaa.PPyramidLevels
theorem rKey_calls (d : Nat) (w : World) (h : d < 4294967296) : Calls Try.prog 64 #[.int .u32 (d : Int)] w fun e w' => e = .returned (.int .u32 ((key d : Nat) : Int)) ∧ Below w.heap.size w w' := by
 refine (halideref1_Key.calls (d : Int) ((key d : Nat) : Int) w ?_).mono (fun e w' h => ⟨h.1, h.2.below⟩)
 unfold halideref1_Key.f key
 rw [w64 (by omega) (by omega)]
 by_cases c : d < 2147483648
 ·rw [if_pos (by omega), if_pos c, w64 (by omega) (by omega)]; exact congrArg some (by omega)
 ·rw [if_neg (by omega), if_neg c, w64 (by omega) (by omega)]; exact congrArg some (by omega)
theorem rFromKey_calls (d : Nat) (w : World) (h : d < 4294967296) : Calls Try.prog 65 #[.int .u32 (d : Int)] w fun e w' => e = .returned (.int .u32 ((fromKey d : Nat) : Int)) ∧ Below w.heap.size w w' := by
 refine (halideref1_FromKey.calls (d : Int) ((fromKey d : Nat) : Int) w ?_).mono (fun e w' h => ⟨h.1, h.2.below⟩)
 unfold halideref1_FromKey.f fromKey
 rw [w64 (by omega) (by omega)]
 by_cases c : 2147483648 ≤ d
 ·rw [if_pos (by omega), if_pos c, w64 (by omega) (by omega)]; exact congrArg some (by omega)
 ·rw [if_neg (by omega), if_neg c, w64 (by omega) (by omega)]; exact congrArg some (by omega)
/-- the first i places laid -/
def layTo (f : Nat → Nat) (n i : Nat) : List Nat := (List.range n).map (fun j => if j < i then f j else 0)
theorem layTo_length (f : Nat → Nat) (n i : Nat) : (layTo f n i).length = n := by simp [layTo]
theorem gt_layTo {f : Nat → Nat} {n i j : Nat} (hj : j < n) : gt (layTo f n i) j = if j < i then f j else 0 := by
 rw [gt, List.getD_eq_getElem?_getD, layTo, List.getElem?_map, List.getElem?_range hj]; rfl
theorem layTo_zero (f : Nat → Nat) (n : Nat) : layTo f n 0 = List.replicate n 0 := by
 refine gt_ext (by rw [layTo_length, List.length_replicate]) fun i hi => ?_
 rw [layTo_length] at hi
 rw [gt_layTo hi, if_neg (by omega)]
 unfold gt
 rw [List.getD_eq_getElem?_getD, List.getElem?_replicate, if_pos hi]; rfl
theorem layTo_succ (f : Nat → Nat) {n i : Nat} (hi : i < n) : (layTo f n i).set i (f i) = layTo f n (i + 1) := by
 refine gt_ext (by rw [List.length_set, layTo_length, layTo_length]) fun j hj => ?_
 rw [List.length_set, layTo_length] at hj
 rw [gt_set, gt_layTo hj, gt_layTo hj, layTo_length]
 by_cases e : i = j
 ·subst e; rw [if_pos ⟨rfl, hi⟩, if_pos (by omega)]
 ·rw [if_neg (fun h => e h.1)]
  by_cases h2 : j < i
  ·rw [if_pos h2, if_pos (by omega)]
  ·rw [if_neg h2, if_neg (by omega)]
theorem layTo_zip (f : Nat → Nat → Nat) (ps es : List Nat) {n : Nat} (h : es.length = n) : layTo (fun j => f (gt ps j) (gt es j)) n n = zipN f ps es := by
 refine gt_ext (by rw [layTo_length, zipN_length, h]) fun j hj => ?_
 rw [layTo_length] at hj
 rw [gt_layTo hj, gt_zipN (by rw [h]; exact hj), if_pos hj]
set_option maxHeartbeats 8000000 in
set_option maxRecDepth 100000 in
theorem rSplit_ok (W H : Nat) (p : List Nat) (A : Option Addr) (n cap : Nat) (w : World) (hp : (Pl.mk W H p).ok) (hx : PL w A n cap p) :
    Calls Try.prog 31 #[.agg #[.int .i64 (W : Int), .int .i64 (H : Int), .slice A n cap]] w fun e w' => ∃ v u, e = .returned (.tuple #[.agg #[.int .i64 ((hf W : Nat) : Int), .int .i64 ((hf H : Nat) : Int), v], .agg #[.int .i64 (W : Int), .int .i64 (H : Int), u], .int .i64 0]) ∧ (nat .u32).R 50 w' w.heap.size (fun _ => True) v (redS W H p) ∧ (nat .u32).R 50 w' w.heap.size (fun _ => True) u (finS W H p) ∧ Below w.heap.size w w' := by
 have hu25 := Try.underlying25
 have HP := Aside0.mk hp
 have HQ := Aside0.mk (red_ok hp)
 obtain ⟨p1, p2, p3, p4, p5, p6, p7⟩ := hp
 have p1 : 0 < W := p1
 have p2 : 0 < H := p2
 have p3 : W ≤ 1024 := p3
 have p4 : H ≤ 1024 := p4
 have p5 : W * H ≤ 65536 := p5
 have p6 : p.length = W * H := p6
 have hnn : n = W * H := hx.2.2.symm.trans p6
 have HNW : Aside0 (W * H = n) := ⟨hnn.symm⟩
 have HNB : Aside0 (0 < n ∧ n ≤ 65536) := ⟨by rw [hnn]; exact ⟨Nat.mul_pos p1 p2, p5⟩⟩
 have HWH := Aside0.mk p5
 have HXX := Aside0.mk p7
 have HSZ : Aside0 (0 < W ∧ 0 < H ∧ W ≤ 1024 ∧ H ≤ 1024 ∧ W * H ≤ 65536) := ⟨⟨p1, p2, p3, p4, p5⟩⟩
 have Lx_0 := Aside0.mk hx
 obtain ⟨rs, hrs⟩ : ∃ rs, redS W H p = rs := ⟨_, rfl⟩
 obtain ⟨es, hes⟩ : ∃ es, expS (hf W) (hf H) W H rs = es := ⟨_, rfl⟩
 have hel : es.length = n := by rw [← hes, expS_length, hnn]
 have HEL := Aside0.mk hel
 have HEX : Aside0 (∀ i, gt es i < 4294967296) := ⟨by rw [← hes, ← hrs]; exact expS_lt (red_ok HP.out) p3 p4⟩
 have HFS : Aside0 (layTo (fun j => difA (gt p j) (gt es j)) n n = finS W H p) := ⟨by rw [layTo_zip difA p es hel]; unfold finS; rw [hrs, hes]⟩
 have HRS := Aside0.mk hrs
 have HES := Aside0.mk hes
 rw [hrs] at HQ ⊢
 rw [← HFS.out]
 clear p1 p2 p3 p4 p5 p6 p7 hx hrs hes hel hnn HFS
 have B_0 : Aside0 (Below w.heap.size w w) := ⟨Below.refl _ _⟩
 go_enter Try.func31, Try.ntmps31
 go_wp2_with (first | ((with_reducible refine gate_store (p := 9) rfl ?_); refine storeP_event rfl rfl rfl g9 (W : Int) (H : Int) (some ⟨go, 0, none⟩) n5 co _ _ _ rfl rfl ZF.out ?_; intro w9 hm_ hst_ hbl_; have BL8_2 := Aside0.mk (BL8_1.out.trans (hbl_ _ GGF.out)); have ZF_ := Aside0.mk hm_; have B_9 := Aside0.mk (below_step B_8.out BL8_2.out); have DX_9 := Aside0.mk (blk_below DX_8.out BL8_2.out); have DR_9 := Aside0.mk (blk_below DR_8.out BL8_2.out); have DS_9 := Aside0.mk (blk_below DS_8.out BL8_2.out); have DC_9 := Aside0.mk (blk_below DC_8.out BL8_2.out); have DE_9 := Aside0.mk (blk_below DE_8.out BL8_2.out); have Lx_9 := Aside0.mk (Lx_8.out.below BL8_2.out); have Lc_9 := Aside0.mk (Lc_8.out.below BL8_2.out); have Le_9 := Aside0.mk (Le_8.out.below BL8_2.out); have V_9 := Aside0.mk (Kd.R_below V_8.out BL8_2.out); have BQ_9 := Aside0.mk (below_step BQ_8.out BL8_2.out); have U_9 := Aside0.mk (Kd.R_below U_8.out BL8_2.out); clear DX_8 DR_8 DS_8 DC_8 DE_8 Lx_8 Lc_8 Le_8 V_8 BQ_8 U_8; have DF_9 := Aside0.mk (ZF_.out); clear ZF_ ZF BL8_1 BL8_2; clear hm_ hst_ hbl_) | ((with_reducible refine gate_dst (N := 9) rfl ?_); refine box_event ?hg (N := 9) ?hd (cs := #[.int .i64 0, .int .i64 0, .slice none 0 0]) (t := 25) ?hr ?_; (case hd => rfl); (case hg => rfl); (case hr => first | (go_simp; done) | (go_simp; rfl)); intro g9 hg_ w8_1 hm_ hb_; have BL8_1 := Aside0.mk (hb_); have ZF := Aside0.mk (hm_); have NRF := Aside0.mk (show g9 ≠ gR by rw [hg_]; have := blk_lt DR_8.out; omega); have GGF := Aside0.mk (show w8.heap.size ≤ g9 by rw [hg_]; exact Nat.le_refl _); clear hm_ hb_ hg_) | (go_at_call 48; have hkey := B_7; clear hkey; refine (rBlank_calls _ HWH.out).mono ?_; rintro e w8 ⟨v9, rfl, hR, hb⟩; have QX := Aside0.mk (DX_7.out); have QR := Aside0.mk (DR_7.out); have QS := Aside0.mk (DS_7.out); have QC := Aside0.mk (DC_7.out); have QE := Aside0.mk (DE_7.out); have QLx := Aside0.mk (Lx_7.out); have QLc := Aside0.mk (Lc_7.out); have QLe := Aside0.mk (Le_7.out); have QV := Aside0.mk (V_7.out); have QB := Aside0.mk (B_7.out); clear p0 p1; obtain ⟨go, co, hv9, hgo, hlt9, hty9⟩ := Kd.R_form hR (by rw [List.length_replicate, HNW.out]; exact HNB.out.1); rw [List.length_replicate, HNW.out] at hv9; subst hv9; have GO := Aside0.mk (show w7.heap.size ≤ go from hgo); have BQ_8 := Aside0.mk (hb); have U_8 := Aside0.mk (hR); have B_8 := Aside0.mk (below_step B_7.out hb); have DX_8 := Aside0.mk (blk_below DX_7.out hb); have DR_8 := Aside0.mk (blk_below DR_7.out hb); have DS_8 := Aside0.mk (blk_below DS_7.out hb); have DC_8 := Aside0.mk (blk_below DC_7.out hb); have DE_8 := Aside0.mk (blk_below DE_7.out hb); have Lx_8 := Aside0.mk (Lx_7.out.below hb); have Lc_8 := Aside0.mk (Lc_7.out.below hb); have Le_8 := Aside0.mk (Le_7.out.below hb); have V_8 := Aside0.mk (Kd.R_below V_7.out hb); clear DX_7 DR_7 DS_7 DC_7 DE_7 Lx_7 Lc_7 Le_7 V_7; clear hR hgo hlt9 hty9; clear hb) | ((with_reducible refine gate_store (p := 7) rfl ?_); refine storeP_event rfl rfl rfl g7 (W : Int) (H : Int) A5 n5 c5 _ _ _ rfl rfl ZE.out ?_; intro w7 hm_ hst_ hbl_; have BL6_2 := Aside0.mk (BL6_1.out.trans (hbl_ _ GGE.out)); have ZE_ := Aside0.mk hm_; have B_7 := Aside0.mk (below_step B_6.out BL6_2.out); have DX_7 := Aside0.mk (blk_below DX_6.out BL6_2.out); have DR_7 := Aside0.mk (blk_below DR_6.out BL6_2.out); have DS_7 := Aside0.mk (blk_below DS_6.out BL6_2.out); have DC_7 := Aside0.mk (blk_below DC_6.out BL6_2.out); have Lx_7 := Aside0.mk (Lx_6.out.below BL6_2.out); have Lc_7 := Aside0.mk (Lc_6.out.below BL6_2.out); have Le_7 := Aside0.mk (Le_6.out.below BL6_2.out); have V_7 := Aside0.mk (Kd.R_below V_6.out BL6_2.out); clear DX_6 DR_6 DS_6 DC_6 Lx_6 Lc_6 Le_6 V_6; have DE_7 := Aside0.mk (ZE_.out); clear ZE_ ZE BL6_1 BL6_2; clear hm_ hst_ hbl_; have p0 := (blk_cell DX_7.out 0).trans rfl; have p1 := (blk_cell DX_7.out 1).trans rfl) | ((with_reducible refine gate_dst (N := 7) rfl ?_); refine box_event ?hg (N := 7) ?hd (cs := #[.int .i64 0, .int .i64 0, .slice none 0 0]) (t := 25) ?hr ?_; (case hd => rfl); (case hg => rfl); (case hr => first | (go_simp; done) | (go_simp; rfl)); intro g7 hg_ w6_1 hm_ hb_; have BL6_1 := Aside0.mk (hb_); have ZE := Aside0.mk (hm_); have GGE := Aside0.mk (show w6.heap.size ≤ g7 by rw [hg_]; exact Nat.le_refl _); clear hm_ hb_ hg_) | (go_at_call 15; have hkey := B_5; clear hkey; refine (rExpand_ok (hf W) (hf H) rs A4 n4 c4 W H _ HQ.out Lc_5.out HSZ.out rfl rfl).mono ?_; rw [HES.out]; rintro e w6 ⟨v5, rfl, hR, hb⟩; clear p0 p1; obtain ⟨A5, n5, c5, rfl, hL5⟩ := PL.of hR; have hn5 : n5 = n := hL5.2.2.symm.trans HEL.out; subst hn5; have B_6 := Aside0.mk (below_step B_5.out hb); have DX_6 := Aside0.mk (blk_below DX_5.out hb); have DR_6 := Aside0.mk (blk_below DR_5.out hb); have DS_6 := Aside0.mk (blk_below DS_5.out hb); have DC_6 := Aside0.mk (blk_below DC_5.out hb); have Lx_6 := Aside0.mk (Lx_5.out.below hb); have Lc_6 := Aside0.mk (Lc_5.out.below hb); have V_6 := Aside0.mk (Kd.R_below V_5.out hb); clear DX_5 DR_5 DS_5 DC_5 Lx_5 Lc_5 V_5; have Le_6 := Aside0.mk (hL5); clear hR; clear hb hL5) | ((with_reducible refine gate_dst (N := 22) rfl ?_); refine loadP_g rfl ?hw g5 _ _ _ rfl DC_5.out ?_; (case hw => rfl)) | ((with_reducible refine gate_store (p := 5) rfl ?_); refine storeP_event rfl rfl rfl g5 ((hf W : Nat) : Int) ((hf H : Nat) : Int) A4 n4 c4 _ _ _ rfl rfl ZC.out ?_; intro w5 hm_ hst_ hbl_; have BL4_2 := Aside0.mk (BL4_1.out.trans (hbl_ _ GGC.out)); have ZC_ := Aside0.mk hm_; have B_5 := Aside0.mk (below_step B_4.out BL4_2.out); have DX_5 := Aside0.mk (blk_below DX_4.out BL4_2.out); have DR_5 := Aside0.mk (blk_below DR_4.out BL4_2.out); have DS_5 := Aside0.mk (blk_below DS_4.out BL4_2.out); have Lx_5 := Aside0.mk (Lx_4.out.below BL4_2.out); have Lc_5 := Aside0.mk (Lc_4.out.below BL4_2.out); have V_5 := Aside0.mk (Kd.R_below V_4.out BL4_2.out); clear DX_4 DR_4 DS_4 Lx_4 Lc_4 V_4; have DC_5 := Aside0.mk (ZC_.out); clear ZC_ ZC BL4_1 BL4_2; clear hm_ hst_ hbl_; have p0 := (blk_cell DX_5.out 0).trans rfl; have p1 := (blk_cell DX_5.out 1).trans rfl) | ((with_reducible refine gate_dst (N := 5) rfl ?_); refine box_event ?hg (N := 5) ?hd (cs := #[.int .i64 0, .int .i64 0, .slice none 0 0]) (t := 25) ?hr ?_; (case hd => rfl); (case hg => rfl); (case hr => first | (go_simp; done) | (go_simp; rfl)); intro g5 hg_ w4_1 hm_ hb_; have BL4_1 := Aside0.mk (hb_); have ZC := Aside0.mk (hm_); have NRC := Aside0.mk (show g5 ≠ gR by rw [hg_]; have := blk_lt DR_4.out; omega); have GGC := Aside0.mk (show w4.heap.size ≤ g5 by rw [hg_]; exact Nat.le_refl _); clear hm_ hb_ hg_) | (go_at_call 14; have hkey := B_3; clear hkey; refine (rReduce_ok W H p A n cap _ HP.out Lx_3.out).mono ?_; rw [HRS.out]; rintro e w4 ⟨v4, rfl, hR, hb⟩; clear p0 p1 p2; obtain ⟨A4, n4, c4, rfl, hL4⟩ := PL.of hR; have B_4 := Aside0.mk (below_step B_3.out hb); have DX_4 := Aside0.mk (blk_below DX_3.out hb); have DR_4 := Aside0.mk (blk_below DR_3.out hb); have DS_4 := Aside0.mk (blk_below DS_3.out hb); have Lx_4 := Aside0.mk (Lx_3.out.below hb); clear DX_3 DR_3 DS_3 Lx_3; have Lc_4 := Aside0.mk (hL4); have V_4 := Aside0.mk (Kd.R_lower hR B_3.out.size); clear hR; clear hb hL4) | ((with_reducible refine gate_dst (N := 3) rfl ?_); refine box_event ?hg (N := 3) ?hd (cs := #[.int .i64 0, .int .i64 0, .slice none 0 0]) (t := 25) ?hr ?_; (case hd => rfl); (case hg => rfl); (case hr => first | (go_simp; done) | (go_simp; rfl)); intro gS hg_ w3 hm_ hb_; have GS := Aside0.mk (show w.heap.size ≤ gS by rw [hg_]; exact B_2.out.size); have NXS := Aside0.mk (show gX ≠ gS by rw [hg_]; have := blk_lt DX_2.out; omega); have NRS := Aside0.mk (show gR ≠ gS by rw [hg_]; have := blk_lt DR_2.out; omega); have B_3 := Aside0.mk (below_step B_2.out hb_); have DX_3 := Aside0.mk (blk_below DX_2.out hb_); have DR_3 := Aside0.mk (blk_below DR_2.out hb_); have Lx_3 := Aside0.mk (Lx_2.out.below hb_); clear DX_2 DR_2 Lx_2; have DS_3 := Aside0.mk (hm_); clear hm_ hb_ hg_; have p0 := (blk_cell DX_3.out 0).trans rfl; have p1 := (blk_cell DX_3.out 1).trans rfl; have p2 := (blk_cell DX_3.out 2).trans rfl) | ((with_reducible refine gate_dst (N := 2) rfl ?_); refine box_event ?hg (N := 2) ?hd (cs := #[.int .i64 0, .int .i64 0, .slice none 0 0]) (t := 25) ?hr ?_; (case hd => rfl); (case hg => rfl); (case hr => first | (go_simp; done) | (go_simp; rfl)); intro gR hg_ w2 hm_ hb_; have GR := Aside0.mk (show w.heap.size ≤ gR by rw [hg_]; exact B_1.out.size); have NXR := Aside0.mk (show gX ≠ gR by rw [hg_]; have := blk_lt DX_1.out; omega); have B_2 := Aside0.mk (below_step B_1.out hb_); have DX_2 := Aside0.mk (blk_below DX_1.out hb_); have Lx_2 := Aside0.mk (Lx_1.out.below hb_); clear DX_1 Lx_1; have DR_2 := Aside0.mk (hm_); clear hm_ hb_ hg_) | ((with_reducible refine gate_dst (N := 1) rfl ?_); refine box_event ?hg (N := 1) ?hd (cs := #[.int .i64 (W : Int), .int .i64 (H : Int), .slice A n cap]) (t := 25) ?hr ?_; (case hd => rfl); (case hg => rfl); (case hr => first | (go_simp; done) | (go_simp; rfl)); intro gX hg_ w1 hm_ hb_; have B_1 := Aside0.mk (below_step B_0.out hb_); have Lx_1 := Aside0.mk (Lx_0.out.below hb_); clear Lx_0; have DX_1 := Aside0.mk (hm_); clear hm_ hb_ hg_))
 have M0 : Aside0 (M3 w7 g9 W H go n5 co w9 (List.replicate (W * H) 0)) := ⟨⟨U_9.out, DF_9.out, BQ_9.out⟩⟩
 rw [HNW.out] at M0
 have HL0 : Aside0 (List.replicate n5 0 = layTo (fun j => difA (gt p j) (gt es j)) n5 0) := ⟨(layTo_zero _ _).symm⟩
 obtain ⟨ys0, hys0⟩ : ∃ ys0, List.replicate n5 0 = ys0 := ⟨_, rfl⟩
 rw [hys0] at HL0 M0
 clear hys0 U_9 BQ_9
 go_loopw [10] (fun iv wr => ∃ (i : Nat) (ys : List Nat), i ≤ n5 ∧ iv = .int .i64 (i : Int) ∧ Aside0 (ys = layTo (fun j => difA (gt p j) (gt es j)) n5 i) ∧ Aside0 (M3 w7 g9 W H go n5 co wr ys)) (fun iv _ => n5 - (intOf iv).toNat)
 case atStart => exact ⟨0, ys0, Nat.zero_le _, rfl, HL0, M0⟩
 case round =>
  clear M0 HL0
  obtain ⟨i, ys, hi, rfl, HY, HM⟩ := hrel
  have z2 := (blk_cell HM.out.2.1 2).trans rfl
  by_cases hlt : i < n5
  ·have c1 : decide ((i : Int) < (n5 : Int)) = true := decide_eq_true (by omega)
   have i1 : ((i : Int) < (n5 : Int)) = True := eq_true (by omega)
   have hb1 := HNB.out.2
   obtain ⟨b, hb⟩ : ∃ b, gt es i = b := ⟨_, rfl⟩
   obtain ⟨a, ha⟩ : ∃ a, gt p i = a := ⟨_, rfl⟩
   have HA : Aside0 (a < 4294967296) := ⟨by rw [← ha]; exact HXX.out i⟩
   have HB : Aside0 (b < 4294967296) := ⟨by rw [← hb]; exact HEX.out i⟩
   obtain ⟨adp, hA, hxa⟩ := C_nat (Kd.C_below QLx.out.1 HM.out.2.2) i hlt
   subst hA
   rw [ha] at hxa
   obtain ⟨ade, hA, hxe⟩ := C_nat (Kd.C_below QLe.out.1 HM.out.2.2) i hlt
   subst hA
   rw [hb] at hxe
   obtain ⟨ka, hka⟩ : ∃ k, key a = k := ⟨_, rfl⟩
   obtain ⟨kb, hkb⟩ : ∃ k, key b = k := ⟨_, rfl⟩
   have HKA := Aside0.mk hka
   have HKB := Aside0.mk hkb
   obtain ⟨d, hd⟩ : ∃ d, difA a b = d := ⟨_, rfl⟩
   have e1 : IntKind.u32.wrap ((ka : Int) - (kb : Int)) = (d : Int) := by
    rw [← hd, ← hka, ← hkb]; unfold difA; simp only [IntKind.wrap_u32]; have := key_lt HA.out; have := key_lt HB.out; omega
   have HYS : Aside0 (ys.set i d = layTo (fun j => difA (gt p j) (gt es j)) n5 (i + 1)) := ⟨by rw [HY.out, ← layTo_succ _ hlt, ha, hb, hd]⟩
   have HLT := Aside0.mk hlt
   have HXA := Aside0.mk hxa
   have HXE := Aside0.mk hxe
   clear hb ha hka hkb hd hxa hxe
   go_upto_region 9 with (fail)
   have MM0 := Aside0.mk (M3_drew HM.out)
   have PP0 := Aside0.mk (blk_below QX.out MM0.out.2.2)
   have EE0 := Aside0.mk (blk_below QE.out MM0.out.2.2)
   have XX0 : Aside0 (wr.drew.cell? (adp.add i) = some (.int .u32 (a : Int))) := ⟨HXA.out⟩
   have XE0 : Aside0 (wr.drew.cell? (ade.add i) = some (.int .u32 (b : Int))) := ⟨HXE.out⟩
   clear z2 HM
   refine start_ (n := 18) (S := fun w' => w'.cell? ⟨g9, 2, none⟩ = some (.slice (some ⟨go, 0, none⟩) n5 co) ∧ w'.cell? ⟨gX, 2, none⟩ = some (.slice (some adp) n5 cap) ∧ w'.cell? (adp.add i) = some (.int .u32 (a : Int)) ∧ w'.cell? ⟨g7, 2, none⟩ = some (.slice (some ade) n5 c5) ∧ w'.cell? (ade.add i) = some (.int .u32 (b : Int))) (ds := [17]) #[ff_,ff_,ff_,ff_,ff_,ff_,ff_,ff_,ff_,ff_,ff_,ff_,ff_,ff_,ff_,ff_,ff_,ff_] (by kernel_rfl) rfl rfl ⟨(blk_cell MM0.out.2.1 2).trans rfl, (blk_cell PP0.out 2).trans rfl, XX0.out, (blk_cell EE0.out 2).trans rfl, XE0.out⟩ (fun hHeld => ?_)
   generalize wr.drew = w70 at *
   refine pure_ (i := 0) (N := some 42) (v := ?_) (a' := ?_) #[tt_,ff_,ff_,ff_,ff_,ff_,ff_,ff_,ff_,ff_,ff_,ff_,ff_,ff_,ff_,ff_,ff_,ff_] rfl rfl (by kernel_rfl) (fun _ _ _ h => h) (Or.inl ⟨by rfl, ?_⟩) ?_ ?_
   rotate_left
   ·intro w'
    go_simp
    with_reducible rfl
   rotate_left
   ·simp only [Act.put, List.setIfInBounds_toArray, List.set_cons_zero, List.set_cons_succ, i64_w, i32_w]
    rfl
   refine pure_ (i := 2) (N := some 44) (v := ?_) (a' := ?_) #[tt_,ff_,tt_,ff_,ff_,ff_,ff_,ff_,ff_,ff_,ff_,ff_,ff_,ff_,ff_,ff_,ff_,ff_] rfl rfl (by kernel_rfl) (fun _ _ _ h => h) (Or.inl ⟨by rfl, ?_⟩) ?_ ?_
   rotate_left
   ·intro w'
    go_simp
    with_reducible rfl
   rotate_left
   ·simp only [Act.put, List.setIfInBounds_toArray, List.set_cons_zero, List.set_cons_succ, i64_w, i32_w]
    rfl
   refine pure_ (i := 3) (N := some 45) (v := ?_) (a' := ?_) #[tt_,ff_,tt_,tt_,ff_,ff_,ff_,ff_,ff_,ff_,ff_,ff_,ff_,ff_,ff_,ff_,ff_,ff_] rfl rfl (by kernel_rfl) (fun _ _ _ h => h) (Or.inl ⟨by rfl, ?_⟩) ?_ ?_
   rotate_left
   ·intro w'
    go_simp
    with_reducible rfl
   rotate_left
   ·simp only [Act.put, List.setIfInBounds_toArray, List.set_cons_zero, List.set_cons_succ, i64_w, i32_w]
    rfl
   refine pure_ (i := 5) (N := some 47) (v := ?_) (a' := ?_) #[tt_,ff_,tt_,tt_,ff_,tt_,ff_,ff_,ff_,ff_,ff_,ff_,ff_,ff_,ff_,ff_,ff_,ff_] rfl rfl (by kernel_rfl) (fun _ _ _ h => h) (Or.inl ⟨by rfl, ?_⟩) ?_ ?_
   rotate_left
   ·intro w'
    go_simp
    with_reducible rfl
   rotate_left
   ·simp only [Act.put, List.setIfInBounds_toArray, List.set_cons_zero, List.set_cons_succ, i64_w, i32_w]
    rfl
   refine pure_ (i := 9) (N := some 51) (v := ?_) (a' := ?_) #[tt_,ff_,tt_,tt_,ff_,tt_,ff_,ff_,ff_,tt_,ff_,ff_,ff_,ff_,ff_,ff_,ff_,ff_] rfl rfl (by kernel_rfl) (fun _ _ _ h => h) (Or.inl ⟨by rfl, ?_⟩) ?_ ?_
   rotate_left
   ·intro w'
    go_simp
    with_reducible rfl
   rotate_left
   ·simp only [Act.put, List.setIfInBounds_toArray, List.set_cons_zero, List.set_cons_succ, i64_w, i32_w]
    rfl
   refine pure_ (i := 11) (N := some 53) (v := ?_) (a' := ?_) #[tt_,ff_,tt_,tt_,ff_,tt_,ff_,ff_,ff_,tt_,ff_,tt_,ff_,ff_,ff_,ff_,ff_,ff_] rfl rfl (by kernel_rfl) (fun _ _ _ h => h) (Or.inl ⟨by rfl, ?_⟩) ?_ ?_
   rotate_left
   ·intro w'
    go_simp
    with_reducible rfl
   rotate_left
   ·simp only [Act.put, List.setIfInBounds_toArray, List.set_cons_zero, List.set_cons_succ, i64_w, i32_w]
    rfl
   refine take_ (i := 1) (N := some 43) (v := ?_) (a' := ?_) #[tt_,tt_,tt_,tt_,ff_,tt_,ff_,ff_,ff_,tt_,ff_,tt_,ff_,ff_,ff_,ff_,ff_,ff_] rfl rfl (by kernel_rfl) (fun _ _ _ h => h) (Or.inl ⟨by rfl, ?_⟩) hHeld ?_ ?_
   rotate_left
   ·rintro w' ⟨s0, s1, s2, s3, s4⟩
    go_simp
    with_reducible rfl
   rotate_left
   ·simp only [Act.put, List.setIfInBounds_toArray, List.set_cons_zero, List.set_cons_succ, i64_w, i32_w]
    rfl
   refine take_ (i := 4) (N := some 46) (v := ?_) (a' := ?_) #[tt_,tt_,tt_,tt_,tt_,tt_,ff_,ff_,ff_,tt_,ff_,tt_,ff_,ff_,ff_,ff_,ff_,ff_] rfl rfl (by kernel_rfl) (fun _ _ _ h => h) (Or.inl ⟨by rfl, ?_⟩) hHeld ?_ ?_
   rotate_left
   ·rintro w' ⟨s0, s1, s2, s3, s4⟩
    go_simp
    with_reducible rfl
   rotate_left
   ·simp only [Act.put, List.setIfInBounds_toArray, List.set_cons_zero, List.set_cons_succ, i64_w, i32_w]
    rfl
   refine pure_ (i := 6) (N := some 48) (v := ?_) (a' := ?_) #[tt_,tt_,tt_,tt_,tt_,tt_,tt_,ff_,ff_,tt_,ff_,tt_,ff_,ff_,ff_,ff_,ff_,ff_] rfl rfl (by kernel_rfl) (fun _ _ _ h => h) (Or.inl ⟨by rfl, ?_⟩) ?_ ?_
   rotate_left
   ·intro w'
    go_simp
    with_reducible rfl
   rotate_left
   ·simp only [Act.put, List.setIfInBounds_toArray, List.set_cons_zero, List.set_cons_succ, i64_w, i32_w]
    rfl
   refine take_ (i := 7) (N := some 49) (v := ?_) (a' := ?_) #[tt_,tt_,tt_,tt_,tt_,tt_,tt_,tt_,ff_,tt_,ff_,tt_,ff_,ff_,ff_,ff_,ff_,ff_] rfl rfl (by kernel_rfl) (fun _ _ _ h => h) (Or.inl ⟨by rfl, ?_⟩) hHeld ?_ ?_
   rotate_left
   ·rintro w' ⟨s0, s1, s2, s3, s4⟩
    go_simp
    with_reducible rfl
   rotate_left
   ·simp only [Act.put, List.setIfInBounds_toArray, List.set_cons_zero, List.set_cons_succ, i64_w, i32_w]
    rfl
   refine take_ (i := 10) (N := some 52) (v := ?_) (a' := ?_) #[tt_,tt_,tt_,tt_,tt_,tt_,tt_,tt_,ff_,tt_,tt_,tt_,ff_,ff_,ff_,ff_,ff_,ff_] rfl rfl (by kernel_rfl) (fun _ _ _ h => h) (Or.inl ⟨by rfl, ?_⟩) hHeld ?_ ?_
   rotate_left
   ·rintro w' ⟨s0, s1, s2, s3, s4⟩
    go_simp
    with_reducible rfl
   rotate_left
   ·simp only [Act.put, List.setIfInBounds_toArray, List.set_cons_zero, List.set_cons_succ, i64_w, i32_w]
    rfl
   refine pure_ (i := 12) (N := some 54) (v := ?_) (a' := ?_) #[tt_,tt_,tt_,tt_,tt_,tt_,tt_,tt_,ff_,tt_,tt_,tt_,tt_,ff_,ff_,ff_,ff_,ff_] rfl rfl (by kernel_rfl) (fun _ _ _ h => h) (Or.inl ⟨by rfl, ?_⟩) ?_ ?_
   rotate_left
   ·intro w'
    go_simp
    with_reducible rfl
   rotate_left
   ·simp only [Act.put, List.setIfInBounds_toArray, List.set_cons_zero, List.set_cons_succ, i64_w, i32_w]
    rfl
   refine take_ (i := 13) (N := some 55) (v := ?_) (a' := ?_) #[tt_,tt_,tt_,tt_,tt_,tt_,tt_,tt_,ff_,tt_,tt_,tt_,tt_,tt_,ff_,ff_,ff_,ff_] rfl rfl (by kernel_rfl) (fun _ _ _ h => h) (Or.inl ⟨by rfl, ?_⟩) hHeld ?_ ?_
   rotate_left
   ·rintro w' ⟨s0, s1, s2, s3, s4⟩
    go_simp
    with_reducible rfl
   rotate_left
   ·simp only [Act.put, List.setIfInBounds_toArray, List.set_cons_zero, List.set_cons_succ, i64_w, i32_w]
    rfl
   refine one_ (i := 8) (N := some 50) #[tt_,tt_,tt_,tt_,tt_,tt_,tt_,tt_,tt_,tt_,tt_,tt_,tt_,tt_,ff_,ff_,ff_,ff_] rfl rfl (by kernel_rfl) (by decide) (fun K hK => ?_)
   refine goes_ Try.func64 (by kernel_rfl) rfl #[.int .u32 (a : Int)] (by rfl) rfl rfl (by (try simp only [List.map_toArray, List.map_cons, List.map_nil]); rfl) ?_
   with_reducible refine (rKey_calls a _ HA.out).mono ?_
   rw [HKA.out]
   rintro e w71 ⟨rfl, hb⟩
   refine ⟨_, rfl, ?_⟩
   have MM1 := Aside0.mk (M3_below MM0.out hb)
   have PP1 := Aside0.mk (blk_below PP0.out hb)
   have EE1 := Aside0.mk (blk_below EE0.out hb)
   have XX1 := Aside0.mk (pw_cell_below hb XX0.out)
   have XE1 := Aside0.mk (pw_cell_below hb XE0.out)
   clear hb
   refine hK.out _ _ ⟨(blk_cell MM1.out.2.1 2).trans rfl, (blk_cell PP1.out 2).trans rfl, XX1.out, (blk_cell EE1.out 2).trans rfl, XE1.out⟩ (fun hHeld => ?_)
   clear hK K
   refine norm_ (a' := ?_) ?_ ?_
   rotate_left
   ·show Act.put _ (some 50) _ = _
    simp only [Act.put, List.setIfInBounds_toArray, List.set_cons_zero, List.set_cons_succ, i64_w, i32_w]
    rfl
   refine one_ (i := 14) (N := some 56) #[tt_,tt_,tt_,tt_,tt_,tt_,tt_,tt_,tt_,tt_,tt_,tt_,tt_,tt_,tt_,ff_,ff_,ff_] rfl rfl (by kernel_rfl) (by decide) (fun K hK => ?_)
   refine goes_ Try.func64 (by kernel_rfl) rfl #[.int .u32 (b : Int)] (by rfl) rfl rfl (by (try simp only [List.map_toArray, List.map_cons, List.map_nil]); rfl) ?_
   with_reducible refine (rKey_calls b _ HB.out).mono ?_
   rw [HKB.out]
   rintro e w72 ⟨rfl, hb⟩
   refine ⟨_, rfl, ?_⟩
   have MM2 := Aside0.mk (M3_below MM1.out hb)
   have PP2 := Aside0.mk (blk_below PP1.out hb)
   have EE2 := Aside0.mk (blk_below EE1.out hb)
   have XX2 := Aside0.mk (pw_cell_below hb XX1.out)
   have XE2 := Aside0.mk (pw_cell_below hb XE1.out)
   clear hb
   have z1 := (M3_cell MM2.out i HLT.out).1
   have zf := (M3_cell MM2.out i HLT.out).2
   refine hK.out _ _ ⟨(blk_cell MM2.out.2.1 2).trans rfl, (blk_cell PP2.out 2).trans rfl, XX2.out, (blk_cell EE2.out 2).trans rfl, XE2.out⟩ (fun hHeld => ?_)
   clear hK K
   refine norm_ (a' := ?_) ?_ ?_
   rotate_left
   ·show Act.put _ (some 56) _ = _
    simp only [Act.put, List.setIfInBounds_toArray, List.set_cons_zero, List.set_cons_succ, i64_w, i32_w]
    rfl
   refine pure_ (i := 15) (N := some 57) (v := ?_) (a' := ?_) #[tt_,tt_,tt_,tt_,tt_,tt_,tt_,tt_,tt_,tt_,tt_,tt_,tt_,tt_,tt_,tt_,ff_,ff_] rfl rfl (by kernel_rfl) (fun _ _ _ h => h) (Or.inl ⟨by rfl, ?_⟩) ?_ ?_
   rotate_left
   ·intro w'
    go_simp
    with_reducible rfl
   rotate_left
   ·simp only [Act.put, List.setIfInBounds_toArray, List.set_cons_zero, List.set_cons_succ, i64_w, i32_w]
    rfl
   refine pure_ (i := 16) (N := some 58) (v := ?_) (a' := ?_) #[tt_,tt_,tt_,tt_,tt_,tt_,tt_,tt_,tt_,tt_,tt_,tt_,tt_,tt_,tt_,tt_,tt_,ff_] rfl rfl (by kernel_rfl) (fun _ _ _ h => h) (Or.inl ⟨by rfl, ?_⟩) ?_ ?_
   rotate_left
   ·intro w'
    go_simp
    with_reducible rfl
   rotate_left
   ·simp only [Act.put, List.setIfInBounds_toArray, List.set_cons_zero, List.set_cons_succ, i64_w, i32_w]
    rfl
   refine last_ (i := 17) (N := none) #[tt_,tt_,tt_,tt_,tt_,tt_,tt_,tt_,tt_,tt_,tt_,tt_,tt_,tt_,tt_,tt_,tt_,tt_] rfl rfl (by kernel_rfl) (by decide) (fun K hK => ?_)
   refine skip_ (w1 := ?_) (by rfl) rfl ?_ ?_
   rotate_left
   ·go_simp
    rfl
   refine hK.out _ _ ?_
   clear hK K
   refine done_ (by kernel_rfl) ?_
   have MN := Aside0.mk (M3_put MM2.out i d GO.out)
   generalize w72.setCell ⟨go, i, none⟩ (.int .u32 (d : Int)) = wn at *
   clear z1 zf MM0 PP0 EE0 XX0 XE0 MM1 PP1 EE1 XX1 XE1 MM2 PP2 EE2 XX2 XE2 hHeld
   go_wp2
   go_roundw
   case measure => simp [intOf]; have := HLT.out; omega
   case rel => exact ⟨i + 1, ys.set i d, HLT.out, by go_num, HYS, MN⟩
  ·obtain rfl : n5 = i := by omega
   have c1 : decide ((n5 : Int) < (n5 : Int)) = false := decide_eq_false (by omega)
   go_upto_region 10 with (fail)
   have MM := Aside0.mk (M3_drew HM.out)
   have hbw := MM.out.2.2
   have FF := Aside0.mk MM.out.2.1
   have UU : Aside0 ((nat .u32).R 50 wr.drew w7.heap.size (fun _ => True) (.slice (some ⟨go, 0, none⟩) n5 co) ys) := ⟨MM.out.1⟩
   have VV := Aside0.mk (Kd.R_below QV.out hbw)
   have RR := Aside0.mk (blk_below QR.out hbw)
   have SS := Aside0.mk (blk_below QS.out hbw)
   have CC := Aside0.mk (blk_below QC.out hbw)
   have BB := Aside0.mk (below_step QB.out hbw)
   clear hbw MM HM z2
   refine start_ (n := 5) (S := fun w' => w'.cell? ⟨g5, 0, none⟩ = some (.int .i64 ((hf W : Nat) : Int)) ∧ w'.cell? ⟨g5, 1, none⟩ = some (.int .i64 ((hf H : Nat) : Int)) ∧ w'.cell? ⟨g5, 2, none⟩ = some (.slice A4 n4 c4) ∧ w'.cell? ⟨g9, 0, none⟩ = some (.int .i64 (W : Int)) ∧ w'.cell? ⟨g9, 1, none⟩ = some (.int .i64 (H : Int)) ∧ w'.cell? ⟨g9, 2, none⟩ = some (.slice (some ⟨go, 0, none⟩) n5 co)) (ds := [3]) #[false, false, false, false, false] (by kernel_rfl) rfl rfl ⟨(blk_cell CC.out 0).trans rfl, (blk_cell CC.out 1).trans rfl, (blk_cell CC.out 2).trans rfl, (blk_cell FF.out 0).trans rfl, (blk_cell FF.out 1).trans rfl, (blk_cell FF.out 2).trans rfl⟩ (fun hHeld => ?_)
   generalize wr.drew = w80 at *
   refine take_ (i := 0) (N := some 59) (v := ?_) (a' := ?_) #[true, false, false, false, false] rfl rfl (by kernel_rfl) (fun _ _ _ h => h) (Or.inl ⟨by rfl, ?_⟩) hHeld ?_ ?_
   rotate_left
   ·rintro w' ⟨s0, s1, s2, s3, s4, s5⟩
    go_simp
    with_reducible rfl
   rotate_left
   ·simp only [Act.put, List.setIfInBounds_toArray, List.set_cons_zero, List.set_cons_succ, i64_w, i32_w]
    rfl
   refine take_ (i := 1) (N := some 60) (v := ?_) (a' := ?_) #[true, true, false, false, false] rfl rfl (by kernel_rfl) (fun _ _ _ h => h) (Or.inl ⟨by rfl, ?_⟩) hHeld ?_ ?_
   rotate_left
   ·rintro w' ⟨s0, s1, s2, s3, s4, s5⟩
    go_simp
    with_reducible rfl
   rotate_left
   ·simp only [Act.put, List.setIfInBounds_toArray, List.set_cons_zero, List.set_cons_succ, i64_w, i32_w]
    rfl
   refine one_ (i := 2) (N := none) #[true, true, true, false, false] rfl rfl (by kernel_rfl) (by decide) (fun K hK => ?_)
   refine storeP_step (by rfl) rfl rfl gR ((hf W : Nat) : Int) ((hf H : Nat) : Int) A4 n4 c4 _ _ _ rfl rfl RR.out ?_
   intro w81 hm_ hst_ hbl_
   have R81 := Aside0.mk (hm_)
   have C81 := Aside0.mk ((hst_ g5 NRC.out).trans CC.out)
   have S81 := Aside0.mk ((hst_ gS NRS.out.symm).trans SS.out)
   have F81 := Aside0.mk ((hst_ g9 NRF.out).trans FF.out)
   have B81 := Aside0.mk (BB.out.trans (hbl_ _ GR.out))
   have V81 := Aside0.mk (Kd.R_mono (Kd.R_move (Kd.R_types VV.out RR.out (by decide)) (fun k hk => hst_ k hk.2)) (ok' := fun _ => True) (fun _ _ => trivial))
   have U81 := Aside0.mk (Kd.R_mono (Kd.R_move (Kd.R_types UU.out RR.out (by decide)) (fun k hk => hst_ k hk.2)) (ok' := fun _ => True) (fun _ _ => trivial))
   clear hm_ hst_ hbl_
   refine hK.out _ _ ⟨(blk_cell C81.out 0).trans rfl, (blk_cell C81.out 1).trans rfl, (blk_cell C81.out 2).trans rfl, (blk_cell F81.out 0).trans rfl, (blk_cell F81.out 1).trans rfl, (blk_cell F81.out 2).trans rfl⟩ (fun hHeld => ?_)
   clear hK K
   refine last_ (i := 3) (N := none) #[true, true, true, true, false] rfl rfl (by kernel_rfl) (by decide) (fun K hK => ?_)
   refine storeP_step (by rfl) rfl rfl gS (W : Int) (H : Int) (some ⟨go, 0, none⟩) n5 co _ _ _ rfl rfl S81.out ?_
   intro w82 hm_ hst_ hbl_
   have S82 := Aside0.mk (hm_)
   have R82 := Aside0.mk ((hst_ gR NRS.out).trans R81.out)
   have B82 := Aside0.mk (B81.out.trans (hbl_ _ GS.out))
   have V82 := Aside0.mk (Kd.R_mono (Kd.R_move (Kd.R_types V81.out S81.out (by decide)) (fun k hk => hst_ k hk.2)) (ok' := fun _ => True) (fun _ _ => trivial))
   have U82 := Aside0.mk (Kd.R_mono (Kd.R_move (Kd.R_types U81.out S81.out (by decide)) (fun k hk => hst_ k hk.2)) (ok' := fun _ => True) (fun _ _ => trivial))
   clear hm_ hst_ hbl_
   refine hK.out _ _ ?_
   clear hK K
   refine pure_ (i := 4) (N := some 4) (v := ?_) (a' := ?_) #[true, true, true, true, true] rfl rfl (by kernel_rfl) (fun _ _ _ h => h) (Or.inl ⟨by rfl, ?_⟩) ?_ ?_
   rotate_left
   ·intro w'
    go_simp
    with_reducible rfl
   rotate_left
   ·simp only [Act.put, List.setIfInBounds_toArray, List.set_cons_zero, List.set_cons_succ, i64_w, i32_w]
    rfl
   refine done_ (by kernel_rfl) ?_
   try go_wp2
   refine bodyPost_ret (results_cct rfl _ _ gR gS 25 25 #[.int .i64 ((hf W : Nat) : Int), .int .i64 ((hf H : Nat) : Int), .slice A4 n4 c4] #[.int .i64 (W : Int), .int .i64 (H : Int), .slice (some ⟨go, 0, none⟩) n5 co] (0, 0) (0, 0) _ _ rfl R82.out Try.underlying25 rfl (by kernel_rfl) rfl S82.out Try.underlying25 rfl (by kernel_rfl)) rfl ?_
   exact ⟨_, _, rfl, V82.out, by rw [← HY.out]; exact Kd.R_lower U82.out QB.out.size, B82.out⟩
end Go.Proofs.Ytodlgdpkadkjjaa.A
end
section
set_option linter.unusedVariables false
set_option linter.unusedSimpArgs false
namespace Go.Proofs.Ytodlgdpkadkjjaa.A
open Go.RowKit Go.Shelf Go.Proofs.YtodlgdpkadkjjaaW.PrintWords Go.Proofs.YtodlgdpkadkjjaaW.PrintLast Go.Proofs.YtodlgdpkadkjjaaW.PrintMore Go.Proofs.Ytodlgdpkadkjjaa.PPyramidLevels
set_option maxHeartbeats 4000000 in
set_option maxRecDepth 100000 in
theorem rJoin_form (x y u v : Int) (A D : Option Addr) (n cap m dcap : Nat) (p q : List Nat) (w : World) (hx : PL w A n cap p) (hy : PL w D m dcap q) (hpx : ∀ i, gt p i < 4294967296) (hE1 : checkE x y n = 0) (hE2 : checkE u v m = 0) (hex : expO x y p u v = ⟨0, 0, [], 141⟩) :
    Calls Try.prog 32 #[.agg #[.int .i64 x, .int .i64 y, .slice A n cap], .agg #[.int .i64 u, .int .i64 v, .slice D m dcap]] w fun e w' => e = .returned (.tuple #[.agg #[.int .i64 0, .int .i64 0, .slice none 0 0], .int .i64 141]) ∧ Below w.heap.size w w' := by
 have hu25 := Try.underlying25
 have HNL : Aside0 (n < 9223372036854775808) := ⟨by have := hx.1.2.1; omega⟩
 have HML : Aside0 (m < 9223372036854775808) := ⟨by have := hy.1.2.1; omega⟩
 have Lx_0 := Aside0.mk hx
 have Ly_0 := Aside0.mk hy
 have HE1 := Aside0.mk hE1
 have HE2 := Aside0.mk hE2
 have HPX := Aside0.mk hpx
 have HEX := Aside0.mk hex
 clear hE1 hE2 hex hpx hx hy
 have B_0 : Aside0 (Below w.heap.size w w) := ⟨Below.refl _ _⟩
 go_enter Try.func32, Try.ntmps32
 go_wp2_with (first | ((with_reducible refine gate_store (p := 7) rfl ?_); refine storeP_event rfl rfl rfl g7 0 0 A5 n5 c5 _ _ _ rfl rfl ZC.out ?_; intro w7 hm_ hst_ hbl_; have BL6_2 := Aside0.mk (BL6_1.out.trans (hbl_ _ GGC.out)); have ZC_ := Aside0.mk hm_; have B_7 := Aside0.mk (below_step B_6.out BL6_2.out); have DX_7 := Aside0.mk (blk_below DX_6.out BL6_2.out); have DY_7 := Aside0.mk (blk_below DY_6.out BL6_2.out); have DR_7 := Aside0.mk (blk_below DR_6.out BL6_2.out); have Lx_7 := Aside0.mk (Lx_6.out.below BL6_2.out); have Ly_7 := Aside0.mk (Ly_6.out.below BL6_2.out); clear DX_6 DY_6 DR_6 Lx_6 Ly_6; have DC_7 := Aside0.mk (ZC_.out); clear ZC_ ZC BL6_1 BL6_2; clear hm_ hst_ hbl_) | ((with_reducible refine gate_dst (N := 7) rfl ?_); refine box_event ?hg (N := 7) ?hd (cs := #[.int .i64 0, .int .i64 0, .slice none 0 0]) (t := 25) ?hr ?_; (case hd => rfl); (case hg => rfl); (case hr => first | (go_simp; done) | (go_simp; rfl)); intro g7 hg_ w6_1 hm_ hb_; have BL6_1 := Aside0.mk (hb_); have ZC := Aside0.mk (hm_); have GGC := Aside0.mk (show w6.heap.size ≤ g7 by rw [hg_]; exact Nat.le_refl _); clear hm_ hb_ hg_) | (go_at_call 15; have hkey := B_5; clear hkey; refine (rExpand_any u v Lx_5.out HPX.out).mono ?_; rw [HEX.out]; rintro e w6 ⟨v5, rfl, hO, hb⟩; clear p0 p1; obtain ⟨A5, n5, c5, rfl, hn5, hL5⟩ := hO.PL; clear hO hn5 hL5; have B_6 := Aside0.mk (below_step B_5.out hb); have DX_6 := Aside0.mk (blk_below DX_5.out hb); have DY_6 := Aside0.mk (blk_below DY_5.out hb); have DR_6 := Aside0.mk (blk_below DR_5.out hb); have Lx_6 := Aside0.mk (Lx_5.out.below hb); have Ly_6 := Aside0.mk (Ly_5.out.below hb); clear DX_5 DY_5 DR_5 Lx_5 Ly_5; clear hb) | ((with_reducible refine gate_dst (N := 23) rfl ?_); refine loadP_g rfl ?hw gX _ _ _ rfl DX_5.out ?_; (case hw => rfl)) | (go_at_call 44; have hkey := B_4; clear hkey; refine (rCheck_calls u v D m dcap _ HML.out).mono ?_; rw [HE2.out]; rintro e w5 ⟨rfl, hb⟩; clear p0 p1 p2; have B_5 := Aside0.mk (below_step B_4.out hb); have DX_5 := Aside0.mk (blk_below DX_4.out hb); have DY_5 := Aside0.mk (blk_below DY_4.out hb); have DR_5 := Aside0.mk (blk_below DR_4.out hb); have Lx_5 := Aside0.mk (Lx_4.out.below hb); have Ly_5 := Aside0.mk (Ly_4.out.below hb); clear DX_4 DY_4 DR_4 Lx_4 Ly_4; clear hb; have p0 := (blk_cell DY_5.out 0).trans rfl; have p1 := (blk_cell DY_5.out 1).trans rfl) | (go_at_call 44; have hkey := B_3; clear hkey; refine (rCheck_calls x y A n cap _ HNL.out).mono ?_; rw [HE1.out]; rintro e w4 ⟨rfl, hb⟩; clear p0 p1 p2; have B_4 := Aside0.mk (below_step B_3.out hb); have DX_4 := Aside0.mk (blk_below DX_3.out hb); have DY_4 := Aside0.mk (blk_below DY_3.out hb); have DR_4 := Aside0.mk (blk_below DR_3.out hb); have Lx_4 := Aside0.mk (Lx_3.out.below hb); have Ly_4 := Aside0.mk (Ly_3.out.below hb); clear DX_3 DY_3 DR_3 Lx_3 Ly_3; clear hb; have p0 := (blk_cell DY_4.out 0).trans rfl; have p1 := (blk_cell DY_4.out 1).trans rfl; have p2 := (blk_cell DY_4.out 2).trans rfl) | ((with_reducible refine gate_dst (N := 4) rfl ?_); refine box_event ?hg (N := 4) ?hd (cs := #[.int .i64 0, .int .i64 0, .slice none 0 0]) (t := 25) ?hr ?_; (case hd => rfl); (case hg => rfl); (case hr => first | (go_simp; done) | (go_simp; rfl)); intro gR hg_ w3 hm_ hb_; have GR := Aside0.mk (show w.heap.size ≤ gR by rw [hg_]; exact B_2.out.size); have B_3 := Aside0.mk (below_step B_2.out hb_); have DX_3 := Aside0.mk (blk_below DX_2.out hb_); have DY_3 := Aside0.mk (blk_below DY_2.out hb_); have Lx_3 := Aside0.mk (Lx_2.out.below hb_); have Ly_3 := Aside0.mk (Ly_2.out.below hb_); clear DX_2 DY_2 Lx_2 Ly_2; have DR_3 := Aside0.mk (hm_); clear hm_ hb_ hg_; have p0 := (blk_cell DX_3.out 0).trans rfl; have p1 := (blk_cell DX_3.out 1).trans rfl; have p2 := (blk_cell DX_3.out 2).trans rfl) | ((with_reducible refine gate_dst (N := 3) rfl ?_); refine box_event ?hg (N := 3) ?hd (cs := #[.int .i64 u, .int .i64 v, .slice D m dcap]) (t := 25) ?hr ?_; (case hd => rfl); (case hg => rfl); (case hr => first | (go_simp; done) | (go_simp; rfl)); intro gY hg_ w2 hm_ hb_; have B_2 := Aside0.mk (below_step B_1.out hb_); have DX_2 := Aside0.mk (blk_below DX_1.out hb_); have Lx_2 := Aside0.mk (Lx_1.out.below hb_); have Ly_2 := Aside0.mk (Ly_1.out.below hb_); clear DX_1 Lx_1 Ly_1; have DY_2 := Aside0.mk (hm_); clear hm_ hb_ hg_) | ((with_reducible refine gate_dst (N := 2) rfl ?_); refine box_event ?hg (N := 2) ?hd (cs := #[.int .i64 x, .int .i64 y, .slice A n cap]) (t := 25) ?hr ?_; (case hd => rfl); (case hg => rfl); (case hr => first | (go_simp; done) | (go_simp; rfl)); intro gX hg_ w1 hm_ hb_; have B_1 := Aside0.mk (below_step B_0.out hb_); have Lx_1 := Aside0.mk (Lx_0.out.below hb_); have Ly_1 := Aside0.mk (Ly_0.out.below hb_); clear Lx_0 Ly_0; have DX_1 := Aside0.mk (hm_); clear hm_ hb_ hg_) | ((with_reducible refine gate_store (p := 4) rfl ?_); refine storeP_event rfl rfl rfl gR 0 0 none 0 0 _ _ _ rfl rfl DR_7.out ?_; intro w60 hm_ hst_ hbl_; have R60 := Aside0.mk (hm_); have B60 := Aside0.mk (B_7.out.trans (hbl_ _ GR.out)); clear hm_ hst_ hbl_))
 refine bodyPost_ret (results_ct rfl _ _ gR 25 #[.int .i64 0, .int .i64 0, .slice none 0 0] (0, 0) _ rfl R60.out Try.underlying25 rfl (by kernel_rfl)) rfl ?_
 exact ⟨rfl, B60.out⟩
set_option maxHeartbeats 8000000 in
set_option maxRecDepth 100000 in
theorem rJoin_ok (W H U T : Nat) (A D : Option Addr) (n cap m dcap : Nat) (p q : List Nat) (w : World) (hx : PL w A n cap p) (hy : PL w D m dcap q) (hp : (Pl.mk W H p).ok) (hq : (Pl.mk U T q).ok) (hW : hf U = W) (hH : hf T = H) :
    Calls Try.prog 32 #[.agg #[.int .i64 (W : Int), .int .i64 (H : Int), .slice A n cap], .agg #[.int .i64 (U : Int), .int .i64 (T : Int), .slice D m dcap]] w fun e w' => ∃ v, e = .returned (.tuple #[.agg #[.int .i64 (U : Int), .int .i64 (T : Int), v], .int .i64 0]) ∧ (nat .u32).R 50 w' w.heap.size (fun _ => True) v (joiS W H U T p q) ∧ Below w.heap.size w w' := by
 have hu25 := Try.underlying25
 have HNL : Aside0 (n < 9223372036854775808) := ⟨by have := hx.1.2.1; omega⟩
 have HML : Aside0 (m < 9223372036854775808) := ⟨by have := hy.1.2.1; omega⟩
 have Lx_0 := Aside0.mk hx
 have Ly_0 := Aside0.mk hy
 have HE1 : Aside0 (checkE (W : Int) (H : Int) n = 0) := ⟨by rw [← hx.2.2]; exact hp.checkE⟩
 have HE2 : Aside0 (checkE (U : Int) (T : Int) m = 0) := ⟨by rw [← hy.2.2]; exact hq.checkE⟩
 have HP := Aside0.mk hp
 have HWU := Aside0.mk hW
 have HHT := Aside0.mk hH
 obtain ⟨p1, p2, p3, p4, p5, p6, p7⟩ := hq
 have p1 : 0 < U := p1
 have p2 : 0 < T := p2
 have p3 : U ≤ 1024 := p3
 have p4 : T ≤ 1024 := p4
 have p5 : U * T ≤ 65536 := p5
 have p6 : q.length = U * T := p6
 have hnn : m = U * T := hy.2.2.symm.trans p6
 have HNW : Aside0 (U * T = m) := ⟨hnn.symm⟩
 have HNB : Aside0 (0 < m ∧ m ≤ 65536) := ⟨by rw [hnn]; exact ⟨Nat.mul_pos p1 p2, p5⟩⟩
 have HWH := Aside0.mk p5
 have HXX := Aside0.mk p7
 have HSZ : Aside0 (0 < U ∧ 0 < T ∧ U ≤ 1024 ∧ T ≤ 1024 ∧ U * T ≤ 65536) := ⟨⟨p1, p2, p3, p4, p5⟩⟩
 obtain ⟨es, hes⟩ : ∃ es, expS W H U T p = es := ⟨_, rfl⟩
 have hel : es.length = m := by rw [← hes, expS_length, hnn]
 have HEL := Aside0.mk hel
 have HEX : Aside0 (∀ i, gt es i < 4294967296) := ⟨by rw [← hes]; exact expS_lt hp p3 p4⟩
 have HFS : Aside0 (layTo (fun j => addA (gt q j) (gt es j)) m m = joiS W H U T p q) := ⟨by rw [layTo_zip addA q es hel]; unfold joiS; rw [hes]⟩
 have HES := Aside0.mk hes
 rw [← HFS.out]
 clear p1 p2 p3 p4 p5 p6 p7 hx hy hp hes hel hnn HFS hW hH
 have B_0 : Aside0 (Below w.heap.size w w) := ⟨Below.refl _ _⟩
 go_enter Try.func32, Try.ntmps32
 go_wp2_with (first | ((with_reducible refine gate_store (p := 8) rfl ?_); refine storeP_event rfl rfl rfl g8 (U : Int) (T : Int) (some ⟨go, 0, none⟩) n5 co _ _ _ rfl rfl ZF.out ?_; intro w9 hm_ hst_ hbl_; have BL8_2 := Aside0.mk (BL8_1.out.trans (hbl_ _ GGF.out)); have ZF_ := Aside0.mk hm_; have B_9 := Aside0.mk (below_step B_8.out BL8_2.out); have DX_9 := Aside0.mk (blk_below DX_8.out BL8_2.out); have DY_9 := Aside0.mk (blk_below DY_8.out BL8_2.out); have DR_9 := Aside0.mk (blk_below DR_8.out BL8_2.out); have DE_9 := Aside0.mk (blk_below DE_8.out BL8_2.out); have Lx_9 := Aside0.mk (Lx_8.out.below BL8_2.out); have Ly_9 := Aside0.mk (Ly_8.out.below BL8_2.out); have Le_9 := Aside0.mk (Le_8.out.below BL8_2.out); have BQ_9 := Aside0.mk (below_step BQ_8.out BL8_2.out); have U_9 := Aside0.mk (Kd.R_below U_8.out BL8_2.out); clear DX_8 DY_8 DR_8 DE_8 Lx_8 Ly_8 Le_8 BQ_8 U_8; have DF_9 := Aside0.mk (ZF_.out); clear ZF_ ZF BL8_1 BL8_2; clear hm_ hst_ hbl_) | ((with_reducible refine gate_dst (N := 8) rfl ?_); refine box_event ?hg (N := 8) ?hd (cs := #[.int .i64 0, .int .i64 0, .slice none 0 0]) (t := 25) ?hr ?_; (case hd => rfl); (case hg => rfl); (case hr => first | (go_simp; done) | (go_simp; rfl)); intro g8 hg_ w8_1 hm_ hb_; have BL8_1 := Aside0.mk (hb_); have ZF := Aside0.mk (hm_); have GGF := Aside0.mk (show w8.heap.size ≤ g8 by rw [hg_]; exact Nat.le_refl _); clear hm_ hb_ hg_) | (go_at_call 48; have hkey := B_7; clear hkey; refine (rBlank_calls _ HWH.out).mono ?_; rintro e w8 ⟨v9, rfl, hR, hb⟩; have QX := Aside0.mk (DX_7.out); have QY := Aside0.mk (DY_7.out); have QR := Aside0.mk (DR_7.out); have QE := Aside0.mk (DE_7.out); have QLx := Aside0.mk (Lx_7.out); have QLy := Aside0.mk (Ly_7.out); have QLe := Aside0.mk (Le_7.out); have QB := Aside0.mk (B_7.out); clear p0 p1; obtain ⟨go, co, hv9, hgo, hlt9, hty9⟩ := Kd.R_form hR (by rw [List.length_replicate, HNW.out]; exact HNB.out.1); rw [List.length_replicate, HNW.out] at hv9; subst hv9; have GO := Aside0.mk (show w7.heap.size ≤ go from hgo); have BQ_8 := Aside0.mk (hb); have U_8 := Aside0.mk (hR); have B_8 := Aside0.mk (below_step B_7.out hb); have DX_8 := Aside0.mk (blk_below DX_7.out hb); have DY_8 := Aside0.mk (blk_below DY_7.out hb); have DR_8 := Aside0.mk (blk_below DR_7.out hb); have DE_8 := Aside0.mk (blk_below DE_7.out hb); have Lx_8 := Aside0.mk (Lx_7.out.below hb); have Ly_8 := Aside0.mk (Ly_7.out.below hb); have Le_8 := Aside0.mk (Le_7.out.below hb); clear DX_7 DY_7 DR_7 DE_7 Lx_7 Ly_7 Le_7; clear hR hgo hlt9 hty9; clear hb) | ((with_reducible refine gate_store (p := 7) rfl ?_); refine storeP_event rfl rfl rfl g7 (U : Int) (T : Int) A5 n5 c5 _ _ _ rfl rfl ZE.out ?_; intro w7 hm_ hst_ hbl_; have BL6_2 := Aside0.mk (BL6_1.out.trans (hbl_ _ GGE.out)); have ZE_ := Aside0.mk hm_; have B_7 := Aside0.mk (below_step B_6.out BL6_2.out); have DX_7 := Aside0.mk (blk_below DX_6.out BL6_2.out); have DY_7 := Aside0.mk (blk_below DY_6.out BL6_2.out); have DR_7 := Aside0.mk (blk_below DR_6.out BL6_2.out); have Lx_7 := Aside0.mk (Lx_6.out.below BL6_2.out); have Ly_7 := Aside0.mk (Ly_6.out.below BL6_2.out); have Le_7 := Aside0.mk (Le_6.out.below BL6_2.out); clear DX_6 DY_6 DR_6 Lx_6 Ly_6 Le_6; have DE_7 := Aside0.mk (ZE_.out); clear ZE_ ZE BL6_1 BL6_2; clear hm_ hst_ hbl_; have p0 := (blk_cell DY_7.out 0).trans rfl; have p1 := (blk_cell DY_7.out 1).trans rfl) | ((with_reducible refine gate_dst (N := 7) rfl ?_); refine box_event ?hg (N := 7) ?hd (cs := #[.int .i64 0, .int .i64 0, .slice none 0 0]) (t := 25) ?hr ?_; (case hd => rfl); (case hg => rfl); (case hr => first | (go_simp; done) | (go_simp; rfl)); intro g7 hg_ w6_1 hm_ hb_; have BL6_1 := Aside0.mk (hb_); have ZE := Aside0.mk (hm_); have GGE := Aside0.mk (show w6.heap.size ≤ g7 by rw [hg_]; exact Nat.le_refl _); clear hm_ hb_ hg_) | (go_at_call 15; have hkey := B_5; clear hkey; refine (rExpand_ok W H p A n cap U T _ HP.out Lx_5.out HSZ.out HWU.out HHT.out).mono ?_; rw [HES.out]; rintro e w6 ⟨v5, rfl, hR, hb⟩; clear p0 p1; obtain ⟨A5, n5, c5, rfl, hL5⟩ := PL.of hR; have hn5 : n5 = m := hL5.2.2.symm.trans HEL.out; subst hn5; have B_6 := Aside0.mk (below_step B_5.out hb); have DX_6 := Aside0.mk (blk_below DX_5.out hb); have DY_6 := Aside0.mk (blk_below DY_5.out hb); have DR_6 := Aside0.mk (blk_below DR_5.out hb); have Lx_6 := Aside0.mk (Lx_5.out.below hb); have Ly_6 := Aside0.mk (Ly_5.out.below hb); clear DX_5 DY_5 DR_5 Lx_5 Ly_5; have Le_6 := Aside0.mk (hL5); clear hR; clear hb hL5) | ((with_reducible refine gate_dst (N := 23) rfl ?_); refine loadP_g rfl ?hw gX _ _ _ rfl DX_5.out ?_; (case hw => rfl)) | (go_at_call 44; have hkey := B_4; clear hkey; refine (rCheck_calls (U : Int) (T : Int) D m dcap _ HML.out).mono ?_; rw [HE2.out]; rintro e w5 ⟨rfl, hb⟩; clear p0 p1 p2; have B_5 := Aside0.mk (below_step B_4.out hb); have DX_5 := Aside0.mk (blk_below DX_4.out hb); have DY_5 := Aside0.mk (blk_below DY_4.out hb); have DR_5 := Aside0.mk (blk_below DR_4.out hb); have Lx_5 := Aside0.mk (Lx_4.out.below hb); have Ly_5 := Aside0.mk (Ly_4.out.below hb); clear DX_4 DY_4 DR_4 Lx_4 Ly_4; clear hb; have p0 := (blk_cell DY_5.out 0).trans rfl; have p1 := (blk_cell DY_5.out 1).trans rfl) | (go_at_call 44; have hkey := B_3; clear hkey; refine (rCheck_calls (W : Int) (H : Int) A n cap _ HNL.out).mono ?_; rw [HE1.out]; rintro e w4 ⟨rfl, hb⟩; clear p0 p1 p2; have B_4 := Aside0.mk (below_step B_3.out hb); have DX_4 := Aside0.mk (blk_below DX_3.out hb); have DY_4 := Aside0.mk (blk_below DY_3.out hb); have DR_4 := Aside0.mk (blk_below DR_3.out hb); have Lx_4 := Aside0.mk (Lx_3.out.below hb); have Ly_4 := Aside0.mk (Ly_3.out.below hb); clear DX_3 DY_3 DR_3 Lx_3 Ly_3; clear hb; have p0 := (blk_cell DY_4.out 0).trans rfl; have p1 := (blk_cell DY_4.out 1).trans rfl; have p2 := (blk_cell DY_4.out 2).trans rfl) | ((with_reducible refine gate_dst (N := 4) rfl ?_); refine box_event ?hg (N := 4) ?hd (cs := #[.int .i64 0, .int .i64 0, .slice none 0 0]) (t := 25) ?hr ?_; (case hd => rfl); (case hg => rfl); (case hr => first | (go_simp; done) | (go_simp; rfl)); intro gR hg_ w3 hm_ hb_; have GR := Aside0.mk (show w.heap.size ≤ gR by rw [hg_]; exact B_2.out.size); have B_3 := Aside0.mk (below_step B_2.out hb_); have DX_3 := Aside0.mk (blk_below DX_2.out hb_); have DY_3 := Aside0.mk (blk_below DY_2.out hb_); have Lx_3 := Aside0.mk (Lx_2.out.below hb_); have Ly_3 := Aside0.mk (Ly_2.out.below hb_); clear DX_2 DY_2 Lx_2 Ly_2; have DR_3 := Aside0.mk (hm_); clear hm_ hb_ hg_; have p0 := (blk_cell DX_3.out 0).trans rfl; have p1 := (blk_cell DX_3.out 1).trans rfl; have p2 := (blk_cell DX_3.out 2).trans rfl) | ((with_reducible refine gate_dst (N := 3) rfl ?_); refine box_event ?hg (N := 3) ?hd (cs := #[.int .i64 (U : Int), .int .i64 (T : Int), .slice D m dcap]) (t := 25) ?hr ?_; (case hd => rfl); (case hg => rfl); (case hr => first | (go_simp; done) | (go_simp; rfl)); intro gY hg_ w2 hm_ hb_; have B_2 := Aside0.mk (below_step B_1.out hb_); have DX_2 := Aside0.mk (blk_below DX_1.out hb_); have Lx_2 := Aside0.mk (Lx_1.out.below hb_); have Ly_2 := Aside0.mk (Ly_1.out.below hb_); clear DX_1 Lx_1 Ly_1; have DY_2 := Aside0.mk (hm_); clear hm_ hb_ hg_) | ((with_reducible refine gate_dst (N := 2) rfl ?_); refine box_event ?hg (N := 2) ?hd (cs := #[.int .i64 (W : Int), .int .i64 (H : Int), .slice A n cap]) (t := 25) ?hr ?_; (case hd => rfl); (case hg => rfl); (case hr => first | (go_simp; done) | (go_simp; rfl)); intro gX hg_ w1 hm_ hb_; have B_1 := Aside0.mk (below_step B_0.out hb_); have Lx_1 := Aside0.mk (Lx_0.out.below hb_); have Ly_1 := Aside0.mk (Ly_0.out.below hb_); clear Lx_0 Ly_0; have DX_1 := Aside0.mk (hm_); clear hm_ hb_ hg_))
 have M0 : Aside0 (M3 w7 g8 U T go n5 co w9 (List.replicate (U * T) 0)) := ⟨⟨U_9.out, DF_9.out, BQ_9.out⟩⟩
 rw [HNW.out] at M0
 have HL0 : Aside0 (List.replicate n5 0 = layTo (fun j => addA (gt q j) (gt es j)) n5 0) := ⟨(layTo_zero _ _).symm⟩
 obtain ⟨ys0, hys0⟩ : ∃ ys0, List.replicate n5 0 = ys0 := ⟨_, rfl⟩
 rw [hys0] at HL0 M0
 clear hys0 U_9 BQ_9
 go_loopw [9] (fun iv wr => ∃ (i : Nat) (ys : List Nat), i ≤ n5 ∧ iv = .int .i64 (i : Int) ∧ Aside0 (ys = layTo (fun j => addA (gt q j) (gt es j)) n5 i) ∧ Aside0 (M3 w7 g8 U T go n5 co wr ys)) (fun iv _ => n5 - (intOf iv).toNat)
 case atStart => exact ⟨0, ys0, Nat.zero_le _, rfl, HL0, M0⟩
 case round =>
  clear M0 HL0
  obtain ⟨i, ys, hi, rfl, HY, HM⟩ := hrel
  have z2 := (blk_cell HM.out.2.1 2).trans rfl
  by_cases hlt : i < n5
  ·have c1 : decide ((i : Int) < (n5 : Int)) = true := decide_eq_true (by omega)
   have i1 : ((i : Int) < (n5 : Int)) = True := eq_true (by omega)
   have hb1 := HNB.out.2
   obtain ⟨b, hb⟩ : ∃ b, gt es i = b := ⟨_, rfl⟩
   obtain ⟨a, ha⟩ : ∃ a, gt q i = a := ⟨_, rfl⟩
   have HA : Aside0 (a < 4294967296) := ⟨by rw [← ha]; exact HXX.out i⟩
   have HB : Aside0 (b < 4294967296) := ⟨by rw [← hb]; exact HEX.out i⟩
   obtain ⟨adp, hA, hxa⟩ := C_nat (Kd.C_below QLy.out.1 HM.out.2.2) i hlt
   subst hA
   rw [ha] at hxa
   obtain ⟨ade, hA, hxe⟩ := C_nat (Kd.C_below QLe.out.1 HM.out.2.2) i hlt
   subst hA
   rw [hb] at hxe
   obtain ⟨kb, hkb⟩ : ∃ k, key b = k := ⟨_, rfl⟩
   have HKB := Aside0.mk hkb
   obtain ⟨sm, hsm⟩ : ∃ k, (kb + a) % 4294967296 = k := ⟨_, rfl⟩
   have HSM : Aside0 (sm < 4294967296) := ⟨by rw [← hsm]; exact Nat.mod_lt _ (by decide)⟩
   obtain ⟨d, hd⟩ : ∃ d, fromKey sm = d := ⟨_, rfl⟩
   have HFK := Aside0.mk hd
   have hda : addA a b = d := by rw [← hd, ← hsm, ← hkb]; rfl
   have e1 : IntKind.u32.wrap ((a : Int) + (kb : Int)) = (sm : Int) := by
    rw [← hsm]; simp only [IntKind.wrap_u32]; omega
   have HYS : Aside0 (ys.set i d = layTo (fun j => addA (gt q j) (gt es j)) n5 (i + 1)) := ⟨by rw [HY.out, ← layTo_succ _ hlt, ha, hb, hda]⟩
   have HLT := Aside0.mk hlt
   have HXA := Aside0.mk hxa
   have HXE := Aside0.mk hxe
   clear hb ha hkb hd hda hsm hxa hxe
   go_upto_region 14 with (fail)
   have MM0 := Aside0.mk (M3_drew HM.out)
   have PP0 := Aside0.mk (blk_below QY.out MM0.out.2.2)
   have EE0 := Aside0.mk (blk_below QE.out MM0.out.2.2)
   have XX0 : Aside0 (wr.drew.cell? (adp.add i) = some (.int .u32 (a : Int))) := ⟨HXA.out⟩
   have XE0 : Aside0 (wr.drew.cell? (ade.add i) = some (.int .u32 (b : Int))) := ⟨HXE.out⟩
   clear z2 HM
   refine start_ (n := 18) (S := fun w' => w'.cell? ⟨g8, 2, none⟩ = some (.slice (some ⟨go, 0, none⟩) n5 co) ∧ w'.cell? ⟨gY, 2, none⟩ = some (.slice (some adp) n5 dcap) ∧ w'.cell? (adp.add i) = some (.int .u32 (a : Int)) ∧ w'.cell? ⟨g7, 2, none⟩ = some (.slice (some ade) n5 c5) ∧ w'.cell? (ade.add i) = some (.int .u32 (b : Int))) (ds := [17]) #[ff_,ff_,ff_,ff_,ff_,ff_,ff_,ff_,ff_,ff_,ff_,ff_,ff_,ff_,ff_,ff_,ff_,ff_] (by kernel_rfl) rfl rfl ⟨(blk_cell MM0.out.2.1 2).trans rfl, (blk_cell PP0.out 2).trans rfl, XX0.out, (blk_cell EE0.out 2).trans rfl, XE0.out⟩ (fun hHeld => ?_)
   generalize wr.drew = w70 at *
   refine pure_ (i := 0) (N := some 47) (v := ?_) (a' := ?_) #[tt_,ff_,ff_,ff_,ff_,ff_,ff_,ff_,ff_,ff_,ff_,ff_,ff_,ff_,ff_,ff_,ff_,ff_] rfl rfl (by kernel_rfl) (fun _ _ _ h => h) (Or.inl ⟨by rfl, ?_⟩) ?_ ?_
   rotate_left
   ·intro w'
    go_simp
    with_reducible rfl
   rotate_left
   ·simp only [Act.put, List.setIfInBounds_toArray, List.set_cons_zero, List.set_cons_succ, i64_w, i32_w]
    rfl
   refine pure_ (i := 2) (N := some 49) (v := ?_) (a' := ?_) #[tt_,ff_,tt_,ff_,ff_,ff_,ff_,ff_,ff_,ff_,ff_,ff_,ff_,ff_,ff_,ff_,ff_,ff_] rfl rfl (by kernel_rfl) (fun _ _ _ h => h) (Or.inl ⟨by rfl, ?_⟩) ?_ ?_
   rotate_left
   ·intro w'
    go_simp
    with_reducible rfl
   rotate_left
   ·simp only [Act.put, List.setIfInBounds_toArray, List.set_cons_zero, List.set_cons_succ, i64_w, i32_w]
    rfl
   refine pure_ (i := 3) (N := some 50) (v := ?_) (a' := ?_) #[tt_,ff_,tt_,tt_,ff_,ff_,ff_,ff_,ff_,ff_,ff_,ff_,ff_,ff_,ff_,ff_,ff_,ff_] rfl rfl (by kernel_rfl) (fun _ _ _ h => h) (Or.inl ⟨by rfl, ?_⟩) ?_ ?_
   rotate_left
   ·intro w'
    go_simp
    with_reducible rfl
   rotate_left
   ·simp only [Act.put, List.setIfInBounds_toArray, List.set_cons_zero, List.set_cons_succ, i64_w, i32_w]
    rfl
   refine pure_ (i := 5) (N := some 52) (v := ?_) (a' := ?_) #[tt_,ff_,tt_,tt_,ff_,tt_,ff_,ff_,ff_,ff_,ff_,ff_,ff_,ff_,ff_,ff_,ff_,ff_] rfl rfl (by kernel_rfl) (fun _ _ _ h => h) (Or.inl ⟨by rfl, ?_⟩) ?_ ?_
   rotate_left
   ·intro w'
    go_simp
    with_reducible rfl
   rotate_left
   ·simp only [Act.put, List.setIfInBounds_toArray, List.set_cons_zero, List.set_cons_succ, i64_w, i32_w]
    rfl
   refine pure_ (i := 8) (N := some 55) (v := ?_) (a' := ?_) #[tt_,ff_,tt_,tt_,ff_,tt_,ff_,ff_,tt_,ff_,ff_,ff_,ff_,ff_,ff_,ff_,ff_,ff_] rfl rfl (by kernel_rfl) (fun _ _ _ h => h) (Or.inl ⟨by rfl, ?_⟩) ?_ ?_
   rotate_left
   ·intro w'
    go_simp
    with_reducible rfl
   rotate_left
   ·simp only [Act.put, List.setIfInBounds_toArray, List.set_cons_zero, List.set_cons_succ, i64_w, i32_w]
    rfl
   refine pure_ (i := 10) (N := some 57) (v := ?_) (a' := ?_) #[tt_,ff_,tt_,tt_,ff_,tt_,ff_,ff_,tt_,ff_,tt_,ff_,ff_,ff_,ff_,ff_,ff_,ff_] rfl rfl (by kernel_rfl) (fun _ _ _ h => h) (Or.inl ⟨by rfl, ?_⟩) ?_ ?_
   rotate_left
   ·intro w'
    go_simp
    with_reducible rfl
   rotate_left
   ·simp only [Act.put, List.setIfInBounds_toArray, List.set_cons_zero, List.set_cons_succ, i64_w, i32_w]
    rfl
   refine take_ (i := 1) (N := some 48) (v := ?_) (a' := ?_) #[tt_,tt_,tt_,tt_,ff_,tt_,ff_,ff_,tt_,ff_,tt_,ff_,ff_,ff_,ff_,ff_,ff_,ff_] rfl rfl (by kernel_rfl) (fun _ _ _ h => h) (Or.inl ⟨by rfl, ?_⟩) hHeld ?_ ?_
   rotate_left
   ·rintro w' ⟨s0, s1, s2, s3, s4⟩
    go_simp
    with_reducible rfl
   rotate_left
   ·simp only [Act.put, List.setIfInBounds_toArray, List.set_cons_zero, List.set_cons_succ, i64_w, i32_w]
    rfl
   refine take_ (i := 4) (N := some 51) (v := ?_) (a' := ?_) #[tt_,tt_,tt_,tt_,tt_,tt_,ff_,ff_,tt_,ff_,tt_,ff_,ff_,ff_,ff_,ff_,ff_,ff_] rfl rfl (by kernel_rfl) (fun _ _ _ h => h) (Or.inl ⟨by rfl, ?_⟩) hHeld ?_ ?_
   rotate_left
   ·rintro w' ⟨s0, s1, s2, s3, s4⟩
    go_simp
    with_reducible rfl
   rotate_left
   ·simp only [Act.put, List.setIfInBounds_toArray, List.set_cons_zero, List.set_cons_succ, i64_w, i32_w]
    rfl
   refine pure_ (i := 6) (N := some 53) (v := ?_) (a' := ?_) #[tt_,tt_,tt_,tt_,tt_,tt_,tt_,ff_,tt_,ff_,tt_,ff_,ff_,ff_,ff_,ff_,ff_,ff_] rfl rfl (by kernel_rfl) (fun _ _ _ h => h) (Or.inl ⟨by rfl, ?_⟩) ?_ ?_
   rotate_left
   ·intro w'
    go_simp
    with_reducible rfl
   rotate_left
   ·simp only [Act.put, List.setIfInBounds_toArray, List.set_cons_zero, List.set_cons_succ, i64_w, i32_w]
    rfl
   refine take_ (i := 7) (N := some 54) (v := ?_) (a' := ?_) #[tt_,tt_,tt_,tt_,tt_,tt_,tt_,tt_,tt_,ff_,tt_,ff_,ff_,ff_,ff_,ff_,ff_,ff_] rfl rfl (by kernel_rfl) (fun _ _ _ h => h) (Or.inl ⟨by rfl, ?_⟩) hHeld ?_ ?_
   rotate_left
   ·rintro w' ⟨s0, s1, s2, s3, s4⟩
    go_simp
    with_reducible rfl
   rotate_left
   ·simp only [Act.put, List.setIfInBounds_toArray, List.set_cons_zero, List.set_cons_succ, i64_w, i32_w]
    rfl
   refine take_ (i := 9) (N := some 56) (v := ?_) (a' := ?_) #[tt_,tt_,tt_,tt_,tt_,tt_,tt_,tt_,tt_,tt_,tt_,ff_,ff_,ff_,ff_,ff_,ff_,ff_] rfl rfl (by kernel_rfl) (fun _ _ _ h => h) (Or.inl ⟨by rfl, ?_⟩) hHeld ?_ ?_
   rotate_left
   ·rintro w' ⟨s0, s1, s2, s3, s4⟩
    go_simp
    with_reducible rfl
   rotate_left
   ·simp only [Act.put, List.setIfInBounds_toArray, List.set_cons_zero, List.set_cons_succ, i64_w, i32_w]
    rfl
   refine pure_ (i := 11) (N := some 58) (v := ?_) (a' := ?_) #[tt_,tt_,tt_,tt_,tt_,tt_,tt_,tt_,tt_,tt_,tt_,tt_,ff_,ff_,ff_,ff_,ff_,ff_] rfl rfl (by kernel_rfl) (fun _ _ _ h => h) (Or.inl ⟨by rfl, ?_⟩) ?_ ?_
   rotate_left
   ·intro w'
    go_simp
    with_reducible rfl
   rotate_left
   ·simp only [Act.put, List.setIfInBounds_toArray, List.set_cons_zero, List.set_cons_succ, i64_w, i32_w]
    rfl
   refine take_ (i := 12) (N := some 59) (v := ?_) (a' := ?_) #[tt_,tt_,tt_,tt_,tt_,tt_,tt_,tt_,tt_,tt_,tt_,tt_,tt_,ff_,ff_,ff_,ff_,ff_] rfl rfl (by kernel_rfl) (fun _ _ _ h => h) (Or.inl ⟨by rfl, ?_⟩) hHeld ?_ ?_
   rotate_left
   ·rintro w' ⟨s0, s1, s2, s3, s4⟩
    go_simp
    with_reducible rfl
   rotate_left
   ·simp only [Act.put, List.setIfInBounds_toArray, List.set_cons_zero, List.set_cons_succ, i64_w, i32_w]
    rfl
   refine one_ (i := 13) (N := some 60) #[tt_,tt_,tt_,tt_,tt_,tt_,tt_,tt_,tt_,tt_,tt_,tt_,tt_,tt_,ff_,ff_,ff_,ff_] rfl rfl (by kernel_rfl) (by decide) (fun K hK => ?_)
   refine goes_ Try.func64 (by kernel_rfl) rfl #[.int .u32 (b : Int)] (by rfl) rfl rfl (by (try simp only [List.map_toArray, List.map_cons, List.map_nil]); rfl) ?_
   with_reducible refine (rKey_calls b _ HB.out).mono ?_
   rw [HKB.out]
   rintro e w71 ⟨rfl, hb⟩
   refine ⟨_, rfl, ?_⟩
   have MM1 := Aside0.mk (M3_below MM0.out hb)
   have PP1 := Aside0.mk (blk_below PP0.out hb)
   have EE1 := Aside0.mk (blk_below EE0.out hb)
   have XX1 := Aside0.mk (pw_cell_below hb XX0.out)
   have XE1 := Aside0.mk (pw_cell_below hb XE0.out)
   clear hb
   refine hK.out _ _ ⟨(blk_cell MM1.out.2.1 2).trans rfl, (blk_cell PP1.out 2).trans rfl, XX1.out, (blk_cell EE1.out 2).trans rfl, XE1.out⟩ (fun hHeld => ?_)
   clear hK K
   refine norm_ (a' := ?_) ?_ ?_
   rotate_left
   ·show Act.put _ (some 60) _ = _
    simp only [Act.put, List.setIfInBounds_toArray, List.set_cons_zero, List.set_cons_succ, i64_w, i32_w]
    rfl
   refine pure_ (i := 14) (N := some 61) (v := ?_) (a' := ?_) #[tt_,tt_,tt_,tt_,tt_,tt_,tt_,tt_,tt_,tt_,tt_,tt_,tt_,tt_,tt_,ff_,ff_,ff_] rfl rfl (by kernel_rfl) (fun _ _ _ h => h) (Or.inl ⟨by rfl, ?_⟩) ?_ ?_
   rotate_left
   ·intro w'
    go_simp
    with_reducible rfl
   rotate_left
   ·simp only [Act.put, List.setIfInBounds_toArray, List.set_cons_zero, List.set_cons_succ, i64_w, i32_w]
    rfl
   refine one_ (i := 15) (N := some 62) #[tt_,tt_,tt_,tt_,tt_,tt_,tt_,tt_,tt_,tt_,tt_,tt_,tt_,tt_,tt_,tt_,ff_,ff_] rfl rfl (by kernel_rfl) (by decide) (fun K hK => ?_)
   refine goes_ Try.func65 (by kernel_rfl) rfl #[.int .u32 (sm : Int)] (by rfl) rfl rfl (by (try simp only [List.map_toArray, List.map_cons, List.map_nil]); rfl) ?_
   with_reducible refine (rFromKey_calls sm _ HSM.out).mono ?_
   rw [HFK.out]
   rintro e w72 ⟨rfl, hb⟩
   refine ⟨_, rfl, ?_⟩
   have MM2 := Aside0.mk (M3_below MM1.out hb)
   have PP2 := Aside0.mk (blk_below PP1.out hb)
   have EE2 := Aside0.mk (blk_below EE1.out hb)
   have XX2 := Aside0.mk (pw_cell_below hb XX1.out)
   have XE2 := Aside0.mk (pw_cell_below hb XE1.out)
   clear hb
   have z1 := (M3_cell MM2.out i HLT.out).1
   have zf := (M3_cell MM2.out i HLT.out).2
   refine hK.out _ _ ⟨(blk_cell MM2.out.2.1 2).trans rfl, (blk_cell PP2.out 2).trans rfl, XX2.out, (blk_cell EE2.out 2).trans rfl, XE2.out⟩ (fun hHeld => ?_)
   clear hK K
   refine norm_ (a' := ?_) ?_ ?_
   rotate_left
   ·show Act.put _ (some 62) _ = _
    simp only [Act.put, List.setIfInBounds_toArray, List.set_cons_zero, List.set_cons_succ, i64_w, i32_w]
    rfl
   refine pure_ (i := 16) (N := some 63) (v := ?_) (a' := ?_) #[tt_,tt_,tt_,tt_,tt_,tt_,tt_,tt_,tt_,tt_,tt_,tt_,tt_,tt_,tt_,tt_,tt_,ff_] rfl rfl (by kernel_rfl) (fun _ _ _ h => h) (Or.inl ⟨by rfl, ?_⟩) ?_ ?_
   rotate_left
   ·intro w'
    go_simp
    with_reducible rfl
   rotate_left
   ·simp only [Act.put, List.setIfInBounds_toArray, List.set_cons_zero, List.set_cons_succ, i64_w, i32_w]
    rfl
   refine last_ (i := 17) (N := none) #[tt_,tt_,tt_,tt_,tt_,tt_,tt_,tt_,tt_,tt_,tt_,tt_,tt_,tt_,tt_,tt_,tt_,tt_] rfl rfl (by kernel_rfl) (by decide) (fun K hK => ?_)
   refine skip_ (w1 := ?_) (by rfl) rfl ?_ ?_
   rotate_left
   ·go_simp
    rfl
   refine hK.out _ _ ?_
   clear hK K
   refine done_ (by kernel_rfl) ?_
   have MN := Aside0.mk (M3_put MM2.out i d GO.out)
   generalize w72.setCell ⟨go, i, none⟩ (.int .u32 (d : Int)) = wn at *
   clear z1 zf MM0 PP0 EE0 XX0 XE0 MM1 PP1 EE1 XX1 XE1 MM2 PP2 EE2 XX2 XE2 hHeld
   go_wp2
   go_roundw
   case measure => simp [intOf]; have := HLT.out; omega
   case rel => exact ⟨i + 1, ys.set i d, HLT.out, by go_num, HYS, MN⟩
  ·obtain rfl : n5 = i := by omega
   have c1 : decide ((n5 : Int) < (n5 : Int)) = false := decide_eq_false (by omega)
   have o0 := (blk_cell HM.out.2.1 0).trans rfl
   have o1 := (blk_cell HM.out.2.1 1).trans rfl
   have RR := Aside0.mk (blk_below QR.out HM.out.2.2)
   have BB := Aside0.mk (below_step QB.out HM.out.2.2)
   go_wp2_with (first | ((with_reducible refine gate_store (p := 4) rfl ?_); refine storeP_event rfl rfl rfl gR (U : Int) (T : Int) (some ⟨go, 0, none⟩) n5 co _ _ _ rfl rfl RR.out ?_; intro w60 hm_ hst_ hbl_; have R60 := Aside0.mk (hm_); have U60 := Aside0.mk (Kd.R_mono (Kd.R_move (Kd.R_types HM.out.1 RR.out (by decide)) (fun k hk => hst_ k hk.2)) (ok' := fun _ => True) (fun _ _ => trivial)); have B60 := Aside0.mk (BB.out.trans (hbl_ _ GR.out)); clear hm_ hst_ hbl_))
   refine bodyPost_ret (results_ct rfl _ _ gR 25 #[.int .i64 (U : Int), .int .i64 (T : Int), .slice (some ⟨go, 0, none⟩) n5 co] (0, 0) _ rfl R60.out Try.underlying25 rfl (by kernel_rfl)) rfl ?_
   exact ⟨_, rfl, by rw [← HY.out]; exact Kd.R_lower U60.out QB.out.size, B60.out⟩
end Go.Proofs.Ytodlgdpkadkjjaa.A
end
section
set_option linter.unusedVariables false
set_option linter.unusedSimpArgs false
namespace Go.Proofs.Ytodlgdpkadkjjaa.A
open Go.RowKit Go.Shelf Go.Proofs.YtodlgdpkadkjjaaW.PrintWords Go.Proofs.YtodlgdpkadkjjaaW.PrintLast Go.Proofs.YtodlgdpkadkjjaaW.PrintMore Go.Proofs.Ytodlgdpkadkjjaa.PPyramidLevels
def Far (A B : Option Addr) : Prop := ∀ a b, A = some a → B = some b → a.block ≠ b.block
section
variable {x y : Int} {A : Option Addr} {n c : Nat} {p : List Nat} {w : World}
variable {u v : Int} {D : Option Addr} {m d : Nat} {q : List Nat}
end
theorem Ow.keep {w w' : World} {B n c : Nat} {A A1 : Option Addr} {xs : List Nat} (h : Ow .u32 50 w B (.slice A n c) xs) (hz : KeepB A1 w w') (hf : Far A1 A) : Ow .u32 50 w' B (.slice A n c) xs := by
 rcases h with h | ⟨r, cap, cur, e, h1, h2, h3⟩
 ·exact .inl h
 ·refine .inr ⟨r, cap, cur, e, h1, (hz r cur 50 h2 (.inr ⟨rfl, fun ad hA => ?_⟩)).trans h2, h3⟩
  injection e with e _ _
  exact hf ad _ hA e
theorem Apart.snoc {hs : List Hd} {r k : Nat} {A : Option Addr} (h : Apart hs r) (h2 : ∀ ad, A = some ad → ad.block ≠ r) : Apart (hs ++ [(A, k, k)]) r := by
 intro g hg ad hA
 rcases List.mem_append.mp hg with hg | hg
 ·exact h g hg ad hA
 ·have e : g = (A, k, k) := by simpa using hg
  subst e
  exact h2 ad hA
theorem RmS.st {w w1 : World} {g B g15 : Nat} {hs ws : List Hd} {cs : Array Value} (h : RmS w g B hs ws) (hd : w.heap[g15]? = some (.cells cs 25 (0, 0))) (hst : ∀ k, k ≠ g15 → w1.heap[k]? = w.heap[k]?) : RmS w1 g B hs ws := h.moveR fun k cs' t hk ht => hst k (fun e => by subst e; rw [hd] at hk; injection hk with hk; injection hk with _ e; exact ht e.symm)
end Go.Proofs.Ytodlgdpkadkjjaa.A
end
section
set_option linter.unusedVariables false
set_option linter.unusedSimpArgs false
namespace Go.Proofs.Ytodlgdpkadkjjaa.A
open Go.RowKit Go.Shelf Go.Proofs.YtodlgdpkadkjjaaW.PrintWords Go.Proofs.YtodlgdpkadkjjaaW.PrintLast Go.Proofs.YtodlgdpkadkjjaaW.PrintMore Go.Proofs.Ytodlgdpkadkjjaa.PPyramidLevels

set_option maxHeartbeats 1000000 in
set_option maxRecDepth 100000 in
theorem Crop_bad (x y : Int) (A : Option Addr) (n cap : Nat) (a b c d : Int) (w : World) (hn : n < 9223372036854775808) (hE : checkE x y n ≠ 0) :
    Calls Try.prog 68 #[.agg #[.int .i64 x, .int .i64 y, .slice A n cap], .agg #[.int .i64 a, .int .i64 b, .int .i64 c, .int .i64 d]] w fun e w' => e = .returned (.tuple #[.agg #[.int .i64 0, .int .i64 0, .slice none 0 0], .int .i64 ((checkE x y n : Nat) : Int)]) ∧ Below w.heap.size w w' := by
 have hu25 := Try.underlying25
 obtain ⟨k, hk⟩ : ∃ k, checkE x y n = k := ⟨_, rfl⟩
 have HE := Aside0.mk hk
 have HN := Aside0.mk hn
 rw [hk] at hE ⊢
 have t1 : ((k : Int) != 0) = true := by rw [bne_iff_ne]; omega
 clear hk hn hE
 go_enter Try.func68, Try.ntmps68
 go_wp2_with (first | ((with_reducible refine gate_dst (N := 2) rfl ?_); refine box_event ?hg (N := 2) ?hd (cs := #[.int .i64 x, .int .i64 y, .slice A n cap]) (t := 25) ?hr ?_; (case hd => rfl); (case hg => rfl); (case hr => first | (go_simp; done) | (go_simp; rfl)); intro gP hg_ w1 hm_ hb_; have P1 := Aside0.mk (hm_); have B1 := Aside0.mk (hb_); clear hm_ hb_ hg_) | ((with_reducible refine gate_dst (N := 3) rfl ?_); refine box_event ?hg (N := 3) ?hd (cs := #[.int .i64 a, .int .i64 b, .int .i64 c, .int .i64 d]) (t := 95) ?hr ?_; (case hd => rfl); (case hg => rfl); (case hr => first | (go_simp; done) | (go_simp; rfl)); intro gQ hg_ w2 hm_ hb_; have P2 := Aside0.mk (blk_below P1.out hb_); have B2 := Aside0.mk (below_step B1.out hb_); clear hm_ hb_ hg_ P1 B1) | ((with_reducible refine gate_dst (N := 4) rfl ?_); refine box_event ?hg (N := 4) ?hd (cs := #[.int .i64 0, .int .i64 0, .slice none 0 0]) (t := 25) ?hr ?_; (case hd => rfl); (case hg => rfl); (case hr => first | (go_simp; done) | (go_simp; rfl)); intro gR hg_ w3 hm_ hb_; have P3 := Aside0.mk (blk_below P2.out hb_); have R3 := Aside0.mk (hm_); have B3 := Aside0.mk (below_step B2.out hb_); have GR := Aside0.mk (show w.heap.size ≤ gR by rw [hg_]; exact below_size B2.out); have p0 := (blk_cell P3.out 0).trans rfl; have p1 := (blk_cell P3.out 1).trans rfl; have p2 := (blk_cell P3.out 2).trans rfl; clear hm_ hb_ hg_ P2 B2) | (go_at_call 51; refine (Check_calls x y A n cap _ HN.out).mono ?_; rw [HE.out]; rintro e w4 ⟨rfl, hb⟩; have R4 := Aside0.mk (blk_below R3.out hb); have B4 := Aside0.mk (below_step B3.out hb); clear hb p0 p1 p2) | ((with_reducible refine gate_store (p := 4) rfl ?_); refine storeP_event rfl rfl rfl gR 0 0 none 0 0 _ _ _ rfl rfl R4.out ?_; intro w5 hm_ hst_ hbl_; have R5 := Aside0.mk (hm_); have B5 := Aside0.mk (B4.out.trans (hbl_ _ GR.out)); clear hm_ hst_ hbl_))
 refine bodyPost_ret (results_ct rfl _ _ gR 25 #[.int .i64 0, .int .i64 0, .slice none 0 0] (0, 0) _ rfl R5.out Try.underlying25 rfl (by kernel_rfl)) rfl ?_
 exact ⟨rfl, B5.out⟩
theorem gt_gridTo {F : Nat → Nat → Nat} {W n i : Nat} (h : i < n) : gt (gridTo F W n) i = F (i % W) (i / W) := by
 rw [gt, List.getD_eq_getElem?_getD, gridTo, List.getElem?_map, List.getElem?_range h]
 rfl
theorem cropN_whole {W H : Nat} {xs : List Nat} (hl : xs.length = W * H) : cropN xs W 0 0 W H = xs := by
 unfold cropN
 refine gt_ext (by rw [gridTo_length, hl]; simp) (fun i hi => ?_)
 rw [gridTo_length] at hi
 rw [gt_gridTo hi]
 unfold cropF
 rw [Nat.zero_add, Nat.zero_add, Nat.sub_zero]
 congr 1
 rw [Nat.mul_comm]
 exact Nat.div_add_mod i W
theorem Crop_whole (W H : Nat) (xs : List Nat) (A : Option Addr) (n cap : Nat) (w : World) (hp : (Pl.mk W H xs).ok) (h : PL w A n cap xs) :
    Calls Try.prog 68 #[.agg #[.int .i64 (W : Int), .int .i64 (H : Int), .slice A n cap], .agg #[.int .i64 0, .int .i64 0, .int .i64 (W : Int), .int .i64 (H : Int)]] w fun e w' => ∃ v, e = .returned (.tuple #[.agg #[.int .i64 (W : Int), .int .i64 (H : Int), v], .int .i64 0]) ∧ (nat .u32).R 50 w' w.heap.size (fun _ => True) v xs ∧ Below w.heap.size w w' := by
 obtain ⟨h1, h2, rfl⟩ := h
 obtain ⟨p1, p2, p3, p4, p5, p6, p7⟩ := hp
 refine (Crop_calls ⟨W, H, xs⟩ 0 0 W H cap A w ⟨p1, p2, p3, p4, p5, p6, p7⟩ p1 (Nat.le_refl _) p2 (Nat.le_refl _) h1 h2).mono ?_
 rintro e w' ⟨v, rfl, hR, hb⟩
 have e1 : cropN xs W 0 0 W H = xs := cropN_whole p6
 rw [e1] at hR
 exact ⟨v, rfl, hR, hb⟩
/-- a plane halved again and again -/
def lvl (W H : Nat) (xs : List Nat) : Nat → Pl
 | 0 => ⟨W, H, xs⟩
 | i + 1 => ⟨hf (lvl W H xs i).w, hf (lvl W H xs i).h, redS (lvl W H xs i).w (lvl W H xs i).h (lvl W H xs i).s⟩
theorem lvl_ok {W H : Nat} {xs : List Nat} (hp : (Pl.mk W H xs).ok) : ∀ i, (lvl W H xs i).ok
 | 0 => hp
 | i + 1 => red_ok (W := (lvl W H xs i).w) (H := (lvl W H xs i).h) (lvl_ok hp i)
def lvlF (W H : Nat) (xs : List Nat) (i : Nat) : List Nat := finS (lvl W H xs i).w (lvl W H xs i).h (lvl W H xs i).s
def finsB (W H : Nat) (xs : List Nat) (n : Nat) : List (List Nat) := (List.range n).map (lvlF W H xs)
def dimsB (W H : Nat) (xs : List Nat) (n : Nat) : List (Nat × Nat) := (List.range n).map (fun i => ((lvl W H xs i).w, (lvl W H xs i).h))
theorem finsB_succ (W H : Nat) (xs : List Nat) (n : Nat) : finsB W H xs (n + 1) = finsB W H xs n ++ [lvlF W H xs n] := by unfold finsB; rw [List.range_succ, List.map_append]; rfl
theorem dimsB_succ (W H : Nat) (xs : List Nat) (n : Nat) : dimsB W H xs (n + 1) = dimsB W H xs n ++ [((lvl W H xs n).w, (lvl W H xs n).h)] := by unfold dimsB; rw [List.range_succ, List.map_append]; rfl
/-- what Build tells -/
def bldS (W H : Nat) (xs : List Nat) (n : Nat) : List (List Nat) := finsB W H xs n ++ [(lvl W H xs n).s]
def dim2 (es : List (Nat × Nat × Hd)) : List (Nat × Nat) := es.map (fun e => (e.1, e.2.1))
theorem apart_of {B : Nat} {W0 W : World} {es : List (Nat × Nat × Hd)} {ss : List (List Nat)} {vp v : Value} {zs : List Nat} {ok : Nat → Prop} (H : PlsOwn B W0 vp es ss) (hR : (nat .u32).R 50 W W0.heap.size ok v zs) : ∀ k (hk : k < es.length), ApartV (es[k]).2.2.v v := fun k hk j hj he => by
 have h1 := (H.pl_lt hk hj).2.1
 have h2 := ((Kd.R_bound hR).1 j he).2.1
 omega
theorem ne_grown {v v1 : Value} {W : World} {g : Nat} (h : ∀ k, v.ownBlock = some k → k ≠ g) (hat : v1.ownBlock = v.ownBlock ∨ ∃ b, v1.ownBlock = some b ∧ W.heap.size ≤ b) (hg : g < W.heap.size) : ∀ k, v1.ownBlock = some k → k ≠ g := fun k hk e => by
 rcases hat with h1 | ⟨b, h1, hle⟩
 ·exact h k (by rw [← h1]; exact hk) e
 ·rw [h1] at hk
  injection hk with hk
  omega
theorem apart_snoc {es : List (Nat × Nat × Hd)} {a b : Nat} {x : Hd} {v : Value} (h : ∀ k (hk : k < es.length), ApartV (es[k]).2.2.v v) (h2 : ApartV x.v v) : ∀ k (hk : k < (es ++ [(a, b, x)]).length), ApartV ((es ++ [(a, b, x)])[k]).2.2.v v := fun k hk => by
 by_cases hkl : k < es.length
 ·rw [List.getElem_append_left hkl]; exact h k hkl
 ·have hk' : k = es.length := by simp at hk; omega
  subst hk'
  simpa using h2
set_option maxHeartbeats 1000000 in
set_option maxRecDepth 100000 in
theorem Build_bad (x y : Int) (A : Option Addr) (n cap : Nat) (lv : Int) (w : World) (hn : n < 9223372036854775808) (hE : checkE x y n ≠ 0) :
    Calls Try.prog 37 #[.agg #[.int .i64 x, .int .i64 y, .slice A n cap], .int .i64 lv] w fun e w' => e = .returned (.tuple #[.slice none 0 0, .int .i64 ((checkE x y n : Nat) : Int)]) ∧ Below w.heap.size w w' := by
 have hu25 := Try.underlying25
 have HJ := Aside0.mk (fun W => Crop_bad x y A n cap 0 0 x y W hn hE)
 obtain ⟨k, hk⟩ : ∃ k, checkE x y n = k := ⟨_, rfl⟩
 rw [hk] at hE HJ ⊢
 have t1 : ((k : Int) != 0) = true := by rw [bne_iff_ne]; omega
 clear hk hn hE
 go_enter Try.func37, Try.ntmps37
 go_wp2_with (first | ((with_reducible refine gate_dst (N := 2) rfl ?_); refine box_event ?hg (N := 2) ?hd (cs := #[.int .i64 x, .int .i64 y, .slice A n cap]) (t := 25) ?hr ?_; (case hd => rfl); (case hg => rfl); (case hr => first | (go_simp; done) | (go_simp; rfl)); intro gP hg_ w1 hm_ hb_; have P1 := Aside0.mk (hm_); have B1 := Aside0.mk (hb_); have GP := Aside0.mk (show w.heap.size ≤ gP by rw [hg_]; exact Nat.le_refl _); have p0 := (blk_cell P1.out 0).trans rfl; have p1 := (blk_cell P1.out 1).trans rfl; have p2 := (blk_cell P1.out 2).trans rfl; clear hm_ hb_ hg_) | (go_at_call 68; refine (HJ.out _).mono ?_; rintro e w2 ⟨rfl, hb⟩; have P2 := Aside0.mk (blk_below P1.out hb); have B2 := Aside0.mk (below_step B1.out hb); clear hb p0 p1 p2) | ((with_reducible refine gate_store (p := 2) rfl ?_); refine storeP_event rfl rfl rfl gP 0 0 none 0 0 _ _ _ rfl rfl P2.out ?_; intro w3 hm_ hst_ hbl_; have P3 := Aside0.mk (hm_); have B3 := Aside0.mk (B2.out.trans (hbl_ _ GP.out)); clear hm_ hst_ hbl_))
 go_ret2
 exact ⟨rfl, B3.out⟩
set_option maxHeartbeats 1000000 in
set_option maxRecDepth 100000 in
theorem Build_levels (W H : Nat) (xs : List Nat) (A : Option Addr) (n cap : Nat) (lv : Int) (w : World) (hp : (Pl.mk W H xs).ok) (h : PL w A n cap xs) (hl : lv < 0 ∨ 12 < lv) :
    Calls Try.prog 37 #[.agg #[.int .i64 (W : Int), .int .i64 (H : Int), .slice A n cap], .int .i64 lv] w fun e w' => e = .returned (.tuple #[.slice none 0 0, .int .i64 140]) ∧ Below w.heap.size w w' := by
 have hu25 := Try.underlying25
 have HP := Aside0.mk hp
 have HL := Aside0.mk h
 have main : ∀ b c : Bool, decide (lv < 0) = b → decide (12 < lv) = c → (b || c) = true → Calls Try.prog 37 #[.agg #[.int .i64 (W : Int), .int .i64 (H : Int), .slice A n cap], .int .i64 lv] w fun e w' => e = .returned (.tuple #[.slice none 0 0, .int .i64 140]) ∧ Below w.heap.size w w' := by
  intro b c t1 t2 hbc
  clear hp h hl
  cases b <;> cases c <;> first | (exact absurd hbc (by decide)) | (
   clear hbc
   go_enter Try.func37, Try.ntmps37
   go_wp2_with (first | ((with_reducible refine gate_dst (N := 2) rfl ?_); refine box_event ?hg (N := 2) ?hd (cs := #[.int .i64 (W : Int), .int .i64 (H : Int), .slice A n cap]) (t := 25) ?hr ?_; (case hd => rfl); (case hg => rfl); (case hr => first | (go_simp; done) | (go_simp; rfl)); intro gP hg_ w1 hm_ hb_; have P1 := Aside0.mk (hm_); have B1 := Aside0.mk (hb_); have GP := Aside0.mk (show w.heap.size ≤ gP by rw [hg_]; exact Nat.le_refl _); have p0 := (blk_cell P1.out 0).trans rfl; have p1 := (blk_cell P1.out 1).trans rfl; have p2 := (blk_cell P1.out 2).trans rfl; clear hm_ hb_ hg_) | (go_at_call 68; refine (Crop_whole W H xs A n cap _ HP.out (HL.out.below B1.out)).mono ?_; rintro e w2 ⟨v2, rfl, hR, hb⟩; obtain ⟨A2, c2, hv2⟩ := Kd.R_slice hR; obtain ⟨n2, hn2⟩ : ∃ n2, xs.length = n2 := ⟨_, rfl⟩; rw [hn2] at hv2; subst hv2; have V2 := Aside0.mk (Kd.R_lower hR B1.out.size); have P2 := Aside0.mk (blk_below P1.out hb); have B2 := Aside0.mk (below_step B1.out hb); clear hR hn2 hb p0 p1 p2) | ((with_reducible refine gate_store (p := 2) rfl ?_); refine storeP_event rfl rfl rfl gP (W : Int) (H : Int) A2 n2 c2 _ _ _ rfl rfl P2.out ?_; intro w3 hm_ hst_ hbl_; have P3 := Aside0.mk (hm_); have B3 := Aside0.mk (B2.out.trans (hbl_ _ GP.out)); have V3 := Aside0.mk (Kd.R_mono (Kd.R_move (Kd.R_types V2.out P2.out (by decide)) (fun k hk => hst_ k hk.2)) (fun _ _ => trivial)); clear hm_ hst_ hbl_))
   go_ret2
   exact ⟨rfl, B3.out⟩)
 exact main _ _ rfl rfl (by rcases hl with hl | hl; · rw [decide_eq_true hl]; rfl
                            ·rw [decide_eq_true hl, Bool.or_true])
set_option maxHeartbeats 8000000 in
set_option maxRecDepth 100000 in
theorem Build_ok (W H : Nat) (xs : List Nat) (A : Option Addr) (n cap lv : Nat) (w : World) (hp : (Pl.mk W H xs).ok) (h : PL w A n cap xs) (hlv : lv ≤ 12) :
    Calls Try.prog 37 #[.agg #[.int .i64 (W : Int), .int .i64 (H : Int), .slice A n cap], .int .i64 (lv : Int)] w fun e w' => ∃ v es, e = .returned (.tuple #[v, .int .i64 0]) ∧ PlsOwn w.heap.size w' v es (bldS W H xs lv) ∧ dim2 es = dimsB W H xs (lv + 1) ∧ Below w.heap.size w w' := by
 have hu25 := Try.underlying25
 have HP := Aside0.mk hp
 have HL := Aside0.mk h
 have t1 : decide ((lv : Int) < 0) = false := decide_eq_false (by omega)
 have t2 : decide ((12 : Int) < (lv : Int)) = false := decide_eq_false (by omega)
 have t3 : decide (12 < lv) = false := decide_eq_false (by omega)
 clear hp h
 go_enter Try.func37, Try.ntmps37
 go_wp2_with (first | ((with_reducible refine gate_dst (N := 2) rfl ?_); refine box_event ?hg (N := 2) ?hd (cs := #[.int .i64 (W : Int), .int .i64 (H : Int), .slice A n cap]) (t := 25) ?hr ?_; (case hd => rfl); (case hg => rfl); (case hr => first | (go_simp; done) | (go_simp; rfl)); intro gP hg_ w1 hm_ hb_; have P1 := Aside0.mk (hm_); have B1 := Aside0.mk (hb_); have GP := Aside0.mk (show w.heap.size ≤ gP by rw [hg_]; exact Nat.le_refl _); have p0 := (blk_cell P1.out 0).trans rfl; have p1 := (blk_cell P1.out 1).trans rfl; have p2 := (blk_cell P1.out 2).trans rfl; clear hm_ hb_ hg_) | (go_at_call 68; refine (Crop_whole W H xs A n cap _ HP.out (HL.out.below B1.out)).mono ?_; rintro e w2 ⟨v2, rfl, hR, hb⟩; obtain ⟨A2, c2, hv2⟩ := Kd.R_slice hR; obtain ⟨n2, hn2⟩ : ∃ n2, xs.length = n2 := ⟨_, rfl⟩; rw [hn2] at hv2; subst hv2; have V2 := Aside0.mk (Kd.R_lower hR B1.out.size); have P2 := Aside0.mk (blk_below P1.out hb); have B2 := Aside0.mk (below_step B1.out hb); clear hR hn2 hb p0 p1 p2) | ((with_reducible refine gate_store (p := 2) rfl ?_); refine storeP_event rfl rfl rfl gP (W : Int) (H : Int) A2 n2 c2 _ _ _ rfl rfl P2.out ?_; intro w3 hm_ hst_ hbl_; have P3 := Aside0.mk (hm_); have B3 := Aside0.mk (B2.out.trans (hbl_ _ GP.out)); have V3 := Aside0.mk (Kd.R_mono (Kd.R_move (Kd.R_types V2.out P2.out (by decide)) (fun k hk => hst_ k hk.2)) (fun _ _ => trivial)); clear hm_ hst_ hbl_))
 clear P2 B2 V2
 obtain ⟨vo, hvo⟩ : ∃ v, v = Value.slice none 0 0 := ⟨_, rfl⟩
 have O3 : Aside0 (PlsOwn w.heap.size w3 vo [] (finsB W H xs 0)) := ⟨by rw [hvo]; exact PlsOwn.nil _ _⟩
 have N3 : Aside0 (∀ k, vo.ownBlock = some k → k ≠ gP) := ⟨by rw [hvo]; intro k hk; simp [Value.ownBlock] at hk⟩
 have A3 : Aside0 (∀ k (hk : k < ([] : List (Nat × Nat × Hd)).length), ApartV (([] : List (Nat × Nat × Hd))[k]).2.2.v (.slice A2 n2 c2)) := ⟨fun k hk => absurd hk (Nat.not_lt_zero _)⟩
 have hvo' := hvo.symm
 rw [hvo']
 clear hvo hvo'
 go_loopw [7, 31] (fun ov iv wr => ∃ (i : Nat) (p : Pl) (es : List (Nat × Nat × Hd)) (Ai : Option Addr) (ni ci : Nat), i ≤ lv ∧ iv = .int .i64 (i : Int) ∧ Aside0 (p = lvl W H xs i) ∧ Aside0 (dim2 es = dimsB W H xs i) ∧ Aside0 (PlsOwn w.heap.size wr ov es (finsB W H xs i)) ∧ Aside0 (∀ k, ov.ownBlock = some k → k ≠ gP) ∧ Aside0 (wr.heap[gP]? = some (.cells #[.int .i64 (p.w : Int), .int .i64 (p.h : Int), .slice Ai ni ci] 25 (0, 0))) ∧ Aside0 ((nat .u32).R 50 wr w.heap.size (fun _ => True) (.slice Ai ni ci) p.s) ∧ Aside0 (∀ k (hk : k < es.length), ApartV (es[k]).2.2.v (.slice Ai ni ci)) ∧ Aside0 (Below w.heap.size w wr)) (fun _ iv _ => lv - (intOf iv).toNat)
 case atStart => exact ⟨0, _, [], A2, n2, c2, Nat.zero_le _, rfl, ⟨rfl⟩, ⟨rfl⟩, O3, N3, P3, V3, A3, B3⟩
 case round =>
  clear O3 N3 A3 P3 V3 B3
  obtain ⟨i, p, es, Ai, ni, ci, hi, rfl, HPE, HDE, OI, NOP, PI, VI, AI, BI⟩ := hrel
  have HPO : Aside0 ((Pl.mk p.w p.h p.s).ok) := ⟨by have := lvl_ok HP.out i; rw [← HPE.out] at this; exact this⟩
  obtain ⟨e1, hci, hCP⟩ := Kd.R_reads' VI.out
  have HPN := Aside0.mk e1.symm
  have HCI := Aside0.mk hci
  have CP : Aside0 ((nat .u32).C wr Ai ni p.s) := ⟨by rw [← e1] at hCP; exact hCP⟩
  have HEL : Aside0 (es.length = i) := ⟨by have h1 := congrArg List.length HDE.out; simpa [dim2, dimsB] using h1⟩
  have HLE : Aside0 ((es.length + 1) * 40 ≤ 140737488355328) := ⟨by rw [HEL.out]; omega⟩
  clear e1 hci hCP
  by_cases hlt : i < lv
  ·have c1 : decide ((i : Int) < (lv : Int)) = true := decide_eq_true (by omega)
   have p0 := (blk_cell PI.out 0).trans rfl
   have p1 := (blk_cell PI.out 1).trans rfl
   have p2 := (blk_cell PI.out 2).trans rfl
   obtain ⟨vo, hvo⟩ : ∃ v, v = u7 := ⟨_, rfl⟩
   subst hvo
   go_upto_region 10 with (first | (go_at_call 25; refine (Split_ok p.w p.h p.s Ai ni ci _ HPO.out HPN.out CP.out HCI.out).mono ?_; rintro e w4 ⟨v4, u4, B, rfl, hB, hR, hU, hb⟩; obtain ⟨A4, c4, hv4⟩ := Kd.R_slice hR; obtain ⟨n4, hn4⟩ : ∃ n4, (redS p.w p.h p.s).length = n4 := ⟨_, rfl⟩; rw [hn4] at hv4; subst hv4; obtain ⟨A5, c5, hv5⟩ := Kd.R_slice hU; obtain ⟨n5, hn5⟩ : ∃ n5, (finS p.w p.h p.s).length = n5 := ⟨_, rfl⟩; rw [hn5] at hv5; subst hv5; have V4 := Aside0.mk (Kd.R_mono (Kd.R_lower hR BI.out.size) (fun _ _ => trivial)); have U4 := Aside0.mk (Kd.R_lower hU (Nat.le_trans BI.out.size hB)); have AP4 := Aside0.mk (apart_of OI.out (Kd.R_lower hU hB)); have AC4 := Aside0.mk (apart_of OI.out hR); have AF4 := Aside0.mk (show ApartV (.slice A5 n5 c5) (.slice A4 n4 c4) from fun j hj he => by have h1 := ((Kd.R_bound hU).1 j hj).2.1; have h2 := hR.1 j he; omega); have P4 := Aside0.mk (blk_below PI.out hb); have B4 := Aside0.mk (below_step BI.out hb); have O4 := Aside0.mk (OI.out.below hb); have NE4 := Aside0.mk (show ∀ k, vo.ownBlock = some k → k < w4.heap.size from fun k hk => (O4.out.row_lt hk).2.1); clear hR hU hB hn4 hn5 hb CP) | ((with_reducible refine gate_dst (N := 8) rfl ?_); refine box_event ?hg (N := 8) ?hd (cs := #[.int .i64 0, .int .i64 0, .slice none 0 0]) (t := 25) ?hr ?_; (case hd => rfl); (case hg => rfl); (case hr => first | (go_simp; done) | (go_simp; rfl)); intro g8 hg_ w5 hm_ hb_; have P5 := Aside0.mk (blk_below P4.out hb_); have Z8 := Aside0.mk (hm_); have V5 := Aside0.mk (Kd.R_below V4.out hb_); have U5 := Aside0.mk (Kd.R_below U4.out hb_); have O5 := Aside0.mk (O4.out.below hb_); have B5 := Aside0.mk (below_step B4.out hb_); have G8 := Aside0.mk (show w.heap.size ≤ g8 by rw [hg_]; exact below_size B4.out); have NP8 := Aside0.mk (show gP ≠ g8 by rw [hg_]; have := blk_lt P4.out; omega); have NO8 := Aside0.mk (show ∀ k, vo.ownBlock = some k → k ≠ g8 by intro k hk; rw [hg_]; have := NE4.out k hk; omega); clear hm_ hb_ hg_ P4 V4 U4 O4 B4) | ((with_reducible refine gate_dst (N := 9) rfl ?_); refine box_event ?hg (N := 9) ?hd (cs := #[.int .i64 0, .int .i64 0, .slice none 0 0]) (t := 25) ?hr ?_; (case hd => rfl); (case hg => rfl); (case hr => first | (go_simp; done) | (go_simp; rfl)); intro g9 hg_ w6 hm_ hb_; have P6 := Aside0.mk (blk_below P5.out hb_); have Z8b := Aside0.mk (blk_below Z8.out hb_); have Z9 := Aside0.mk (hm_); have V6 := Aside0.mk (Kd.R_below V5.out hb_); have U6 := Aside0.mk (Kd.R_below U5.out hb_); have O6 := Aside0.mk (O5.out.below hb_); have B6 := Aside0.mk (below_step B5.out hb_); have G9 := Aside0.mk (show w.heap.size ≤ g9 by rw [hg_]; exact below_size B5.out); have NP9 := Aside0.mk (show gP ≠ g9 by rw [hg_]; have := blk_lt P5.out; omega); have N89 := Aside0.mk (show g8 ≠ g9 by rw [hg_]; have := blk_lt Z8.out; omega); have NO9 := Aside0.mk (show ∀ k, vo.ownBlock = some k → k ≠ g9 by intro k hk; rw [hg_]; have := (O5.out.row_lt hk).2.1; omega); clear hm_ hb_ hg_ P5 V5 U5 O5 B5 Z8) | ((with_reducible refine gate_store (p := 8) rfl ?_); refine storeP_event rfl rfl rfl g8 ((hf p.w : Nat) : Int) ((hf p.h : Nat) : Int) A4 n4 c4 _ _ _ rfl rfl Z8b.out ?_; intro w7 hm_ hst_ hbl_; have X8 := Aside0.mk (hm_); have P7 := Aside0.mk ((hst_ gP NP8.out).trans P6.out); have Z9b := Aside0.mk ((hst_ g9 N89.out.symm).trans Z9.out); have V7 := Aside0.mk (Kd.R_mono (Kd.R_move (Kd.R_types V6.out Z8b.out (by decide)) (fun k hk => hst_ k hk.2)) (fun _ _ => trivial)); have U7 := Aside0.mk (Kd.R_mono (Kd.R_move (Kd.R_types U6.out Z8b.out (by decide)) (fun k hk => hst_ k hk.2)) (fun _ _ => trivial)); have O7 := Aside0.mk (O6.out.keep hst_ (fun h9 => NO8.out _ h9 rfl) (O6.out.ne_pl Z8b.out (by decide))); have B7 := Aside0.mk (B6.out.trans (hbl_ _ G8.out)); clear P6 V6 U6 O6 B6 Z8b Z9; clear hm_ hst_ hbl_) | ((with_reducible refine gate_store (p := 9) rfl ?_); refine storeP_event rfl rfl rfl g9 (p.w : Int) (p.h : Int) A5 n5 c5 _ _ _ rfl rfl Z9b.out ?_; intro w8 hm_ hst_ hbl_; have X9 := Aside0.mk (hm_); have P8 := Aside0.mk ((hst_ gP NP9.out).trans P7.out); have X8b := Aside0.mk ((hst_ g8 N89.out).trans X8.out); have V8 := Aside0.mk (Kd.R_mono (Kd.R_move (Kd.R_types V7.out Z9b.out (by decide)) (fun k hk => hst_ k hk.2)) (fun _ _ => trivial)); have U8 := Aside0.mk (Kd.R_mono (Kd.R_move (Kd.R_types U7.out Z9b.out (by decide)) (fun k hk => hst_ k hk.2)) (fun _ _ => trivial)); have O8 := Aside0.mk (O7.out.keep hst_ (fun h9 => NO9.out _ h9 rfl) (O7.out.ne_pl Z9b.out (by decide))); have B8 := Aside0.mk (B7.out.trans (hbl_ _ G9.out)); clear P7 V7 U7 O7 B7 Z9b X8; clear hm_ hst_ hbl_))
   have hbD : Below w8.heap.size w8 w8.drew := below_drew1 (Below.refl _ _)
   have PD := Aside0.mk (blk_below P8.out hbD)
   have XD9 := Aside0.mk (blk_below X9.out hbD)
   have XD8 := Aside0.mk (blk_below X8b.out hbD)
   have VD := Aside0.mk (Kd.R_below V8.out hbD)
   have UD := Aside0.mk (Kd.R_below U8.out hbD)
   have OD := Aside0.mk (O8.out.below hbD)
   have BD := Aside0.mk (below_step B8.out hbD)
   have APD := AP4
   clear hbD P8 X9 X8b V8 U8 O8 B8 p0 p1 p2
   refine start_ (n := 7) (S := fun w' => w'.cell? ⟨g9, 0, none⟩ = some (.int .i64 (p.w : Int)) ∧ w'.cell? ⟨g9, 1, none⟩ = some (.int .i64 (p.h : Int)) ∧ w'.cell? ⟨g9, 2, none⟩ = some (.slice A5 n5 c5) ∧ w'.cell? ⟨g8, 0, none⟩ = some (.int .i64 ((hf p.w : Nat) : Int)) ∧ w'.cell? ⟨g8, 1, none⟩ = some (.int .i64 ((hf p.h : Nat) : Int)) ∧ w'.cell? ⟨g8, 2, none⟩ = some (.slice A4 n4 c4)) (ds := [6]) #[false, false, false, false, false, false, false] (by kernel_rfl) rfl rfl ⟨(blk_cell XD9.out 0).trans rfl, (blk_cell XD9.out 1).trans rfl, (blk_cell XD9.out 2).trans rfl, (blk_cell XD8.out 0).trans rfl, (blk_cell XD8.out 1).trans rfl, (blk_cell XD8.out 2).trans rfl⟩ (fun hHeld => ?_)
   generalize w8.drew = wd at *
   refine pure_ (i := 0) (N := some 39) (v := ?_) (a' := ?_) #[true, false, false, false, false, false, false] rfl rfl (by kernel_rfl) (fun _ _ _ h => h) (Or.inl ⟨by rfl, ?_⟩) ?_ ?_
   rotate_left
   ·intro w'
    go_simp
    with_reducible rfl
   rotate_left
   ·simp only [Act.put, List.setIfInBounds_toArray, List.set_cons_zero, List.set_cons_succ, i64_w, i32_w]
    rfl
   refine take_ (i := 1) (N := some 40) (v := ?_) (a' := ?_) #[true, true, false, false, false, false, false] rfl rfl (by kernel_rfl) (fun _ _ _ h => h) (Or.inl ⟨by rfl, ?_⟩) hHeld ?_ ?_
   rotate_left
   ·rintro w' ⟨s0, s1, s2, s3, s4, s5⟩
    go_simp
    with_reducible rfl
   rotate_left
   ·simp only [Act.put, List.setIfInBounds_toArray, List.set_cons_zero, List.set_cons_succ, i64_w, i32_w]
    rfl
   refine take_ (i := 4) (N := some 43) (v := ?_) (a' := ?_) #[true, true, false, false, true, false, false] rfl rfl (by kernel_rfl) (fun _ _ _ h => h) (Or.inl ⟨by rfl, ?_⟩) hHeld ?_ ?_
   rotate_left
   ·rintro w' ⟨s0, s1, s2, s3, s4, s5⟩
    go_simp
    with_reducible rfl
   rotate_left
   ·simp only [Act.put, List.setIfInBounds_toArray, List.set_cons_zero, List.set_cons_succ, i64_w, i32_w]
    rfl
   refine one_ (i := 2) (N := some 41) #[true, true, true, false, true, false, false] rfl rfl (by kernel_rfl) (by decide) (fun K hK => ?_)
   refine value_ (w1 := ?_) (v := ?_) (by rfl) rfl ?_ ?_
   rotate_left 2
   ·go_simp
    constructor
    ·rfl
    ·rfl
   have hbA := below_alloc (Below.refl _ wd) (.cells #[.int .i64 (p.w : Int), .int .i64 (p.h : Int), .slice A5 n5 c5] 25 (0, 0))
   have XA9 := Aside0.mk (blk_below XD9.out hbA)
   have XA8 := Aside0.mk (blk_below XD8.out hbA)
   clear hbA
   refine hK.out _ _ ⟨(blk_cell XA9.out 0).trans rfl, (blk_cell XA9.out 1).trans rfl, (blk_cell XA9.out 2).trans rfl, (blk_cell XA8.out 0).trans rfl, (blk_cell XA8.out 1).trans rfl, (blk_cell XA8.out 2).trans rfl⟩ (fun hHeld => ?_)
   clear hK K
   refine norm_ (a' := ?_) ?_ ?_
   rotate_left
   ·show Act.put _ (some 41) _ = _
    simp only [Act.put, List.setIfInBounds_toArray, List.set_cons_zero, List.set_cons_succ, i64_w, i32_w]
    rfl
   refine one_ (i := 3) (N := some 42) #[true, true, true, true, true, false, false] rfl rfl (by kernel_rfl) (by decide) (fun K hK => ?_)
   refine Kd.R_append_step pk (w0 := w) w.heap.size (by rfl) (.tmp 39) (.tmp 41) 67 25 (.agg #[.int .i64 0, .int .i64 0, .slice none 0 0]) 40 rfl Try.underlying67 infoPl rfl (by decide) (by decide) vo es (p.w, p.h, ((A5, n5, c5) : Hd)) [.int .i64 (p.w : Int), .int .i64 (p.h : Int), .slice A5 n5 c5] (fun _ => True) (fun _ => False) rfl rfl (pk_M p.w p.h (A5, n5, c5)) (fun _ h => h.elim) (fun _ _ => trivial) (Kd.R_mono OD.out.row (fun _ _ => trivial)) BD.out (below_size BD.out) HLE.out ?_
   intro v11 w11 hR hB hg hat
   have O11 := Aside0.mk (OD.out.push p.w p.h (A5, n5, c5) (finS p.w p.h p.s) UD.out APD.out hR hg)
   have B11 := Aside0.mk (hB)
   have P11 := Aside0.mk (blk_grown PD.out hg (fun e => NOP.out gP e.symm rfl))
   have X11 := Aside0.mk (blk_grown XD9.out hg (fun e => NO9.out g9 e.symm rfl))
   have Y11 := Aside0.mk (blk_grown XD8.out hg (fun e => NO8.out g8 e.symm rfl))
   have V11 := Aside0.mk (Kd.R_grown (ok := fun k => True ∧ some k ≠ vo.ownBlock) (Kd.R_apartR VD.out OD.out.row (by decide)) hg (fun k hk => hk.2))
   have NO11 := Aside0.mk (ne_grown NOP.out hat (blk_lt PD.out))
   clear hR hB hg hat
   refine hK.out _ _ ⟨(blk_cell X11.out 0).trans rfl, (blk_cell X11.out 1).trans rfl, (blk_cell X11.out 2).trans rfl, (blk_cell Y11.out 0).trans rfl, (blk_cell Y11.out 1).trans rfl, (blk_cell Y11.out 2).trans rfl⟩ (fun hHeld => ?_)
   clear hK K
   refine norm_ (a' := ?_) ?_ ?_
   rotate_left
   ·show Act.put _ (some 42) _ = _
    simp only [Act.put, List.setIfInBounds_toArray, List.set_cons_zero, List.set_cons_succ, i64_w, i32_w]
    rfl
   refine pure_ (i := 5) (N := some 7) (v := ?_) (a' := ?_) #[true, true, true, true, true, true, false] rfl rfl (by kernel_rfl) (fun _ _ _ h => h) (Or.inl ⟨by rfl, ?_⟩) ?_ ?_
   rotate_left
   ·intro w'
    go_simp
    with_reducible rfl
   rotate_left
   ·simp only [Act.put, List.setIfInBounds_toArray, List.set_cons_zero, List.set_cons_succ, i64_w, i32_w]
    rfl
   refine last_ (i := 6) (N := none) #[true, true, true, true, true, true, true] rfl rfl (by kernel_rfl) (by decide) (fun K hK => ?_)
   refine storeP_step (by rfl) rfl rfl gP ((hf p.w : Nat) : Int) ((hf p.h : Nat) : Int) A4 n4 c4 _ _ _ rfl rfl P11.out ?_
   intro w12 hm_ hst_ hbl_
   have P12 := Aside0.mk (hm_)
   have O12 := Aside0.mk (O11.out.keep hst_ (fun h9 => NO11.out _ h9 rfl) (O11.out.ne_pl P11.out (by decide)))
   have B12 := Aside0.mk (B11.out.trans (hbl_ _ GP.out))
   have V12 := Aside0.mk (Kd.R_mono (Kd.R_move (Kd.R_types V11.out P11.out (by decide)) (fun k hk => hst_ k hk.2)) (fun _ _ => trivial))
   clear hm_ hst_ hbl_
   refine hK.out _ _ ?_
   clear hK K
   refine done_ (by kernel_rfl) ?_
   try go_wp2
   go_roundw
   case measure => simp [intOf]; omega
   case rel => exact ⟨i + 1, ⟨hf p.w, hf p.h, redS p.w p.h p.s⟩, es ++ [(p.w, p.h, ((A5, n5, c5) : Hd))], A4, n4, c4, by omega, by go_num, ⟨by rw [HPE.out]; rfl⟩, ⟨by rw [dimsB_succ, ← HDE.out, ← HPE.out]; simp [dim2]⟩, ⟨by rw [finsB_succ]; unfold lvlF; rw [← HPE.out]; exact O12.out⟩, NO11, P12, V12, ⟨apart_snoc AC4.out AF4.out⟩, B12⟩
  ·obtain rfl : i = lv := by omega
   have c1 : decide ((i : Int) < (i : Int)) = false := decide_eq_false (by omega)
   have p0 := (blk_cell PI.out 0).trans rfl
   have p1 := (blk_cell PI.out 1).trans rfl
   have p2 := (blk_cell PI.out 2).trans rfl
   obtain ⟨vo, hvo⟩ : ∃ v, v = u7 := ⟨_, rfl⟩
   subst hvo
   go_wp2_with (((with_reducible refine gate_builtin (b := .append) (xs := #[.tmp 45, .tmp 47]) rfl ?_); at_builtin; refine Kd.R_append pk (w0 := w) w.heap.size rfl (.tmp 45) (.tmp 47) 67 25 (.agg #[.int .i64 0, .int .i64 0, .slice none 0 0]) 40 rfl Try.underlying67 infoPl rfl (by decide) (by decide) vo es (p.w, p.h, ((Ai, ni, ci) : Hd)) [.int .i64 (p.w : Int), .int .i64 (p.h : Int), .slice Ai ni ci] (fun _ => True) (fun _ => False) rfl rfl (pk_M p.w p.h (Ai, ni, ci)) (fun _ h => h.elim) (fun _ _ => trivial) (Kd.R_mono OI.out.row (fun _ _ => trivial)) BI.out BI.out.size HLE.out ?_; intro v11 w11 hR hB hg hat; have O11 := Aside0.mk (OI.out.push p.w p.h (Ai, ni, ci) p.s VI.out AI.out hR hg); have B11 := Aside0.mk (hB); clear hR hB hg hat))
   go_ret2
   exact ⟨_, _, rfl, by unfold bldS; rw [← HPE.out]; exact O11.out, by rw [dimsB_succ, ← HDE.out, ← HPE.out]; simp [dim2], B11.out⟩
end Go.Proofs.Ytodlgdpkadkjjaa.A
end
section
set_option linter.unusedVariables false
set_option linter.unusedSimpArgs false
namespace Go.Proofs.Ytodlgdpkadkjjaa.A
open Go.RowKit Go.Shelf Go.Proofs.YtodlgdpkadkjjaaW.PrintWords Go.Proofs.YtodlgdpkadkjjaaW.PrintLast Go.Proofs.YtodlgdpkadkjjaaW.PrintMore Go.Proofs.Ytodlgdpkadkjjaa.PPyramidLevels

/-- the error of a list's plane -/
def chk (l : List S25) (i : Nat) : Nat := checkE (rd_T25 l (i : Int)).f0 (rd_T25 l (i : Int)).f1 (rd_T25 l (i : Int)).f2.length
def Pl.s25 (p : Pl) : S25 := ⟨(p.w : Int), (p.h : Int), ints p.s⟩
def plz : Pl := ⟨0, 0, []⟩
/-- planes joined, from the last one on: the error, and the plane -/
def rsts (ps : List Pl) : Nat → Nat × Pl
 | 0 => (0, ps.getD (ps.length - 1) plz)
 | k + 1 => if hf (ps.getD (ps.length - 2 - k) plz).w = (rsts ps k).2.w ∧ hf (ps.getD (ps.length - 2 - k) plz).h = (rsts ps k).2.h then (0, ⟨(ps.getD (ps.length - 2 - k) plz).w, (ps.getD (ps.length - 2 - k) plz).h, joiS (rsts ps k).2.w (rsts ps k).2.h (ps.getD (ps.length - 2 - k) plz).w (ps.getD (ps.length - 2 - k) plz).h (rsts ps k).2.s (ps.getD (ps.length - 2 - k) plz).s⟩) else (141, (rsts ps k).2)
theorem rsts_err (ps : List Pl) : ∀ k, (rsts ps k).1 = 0 ∨ (rsts ps k).1 = 141
 | 0 => .inl rfl
 | k + 1 => by
  unfold rsts
  split
  ·exact .inl rfl
  ·exact .inr rfl
theorem Join_form (W H : Nat) (A : Option Addr) (n cap : Nat) (w_ h_ : Nat) (D : Option Addr) (m dcap : Nat) (w : World) (hE1 : checkE (W : Int) (H : Int) n = 0) (hE2 : checkE (w_ : Int) (h_ : Int) m = 0) (hf_ : ¬ (hf w_ = W ∧ hf h_ = H)) :
    Calls Try.prog 33 #[.agg #[.int .i64 (W : Int), .int .i64 (H : Int), .slice A n cap], .agg #[.int .i64 (w_ : Int), .int .i64 (h_ : Int), .slice D m dcap]] w fun e w' => e = .returned (.tuple #[.agg #[.int .i64 0, .int .i64 0, .slice none 0 0], .int .i64 141]) ∧ Below w.heap.size w w' := by
 by_cases h4 : hf w_ = W
 ·exact Join_high W H A n cap w_ h_ D m dcap w hE1 hE2 h4 (fun h5 => hf_ ⟨h4, h5⟩)
 ·exact Join_wide W H A n cap w_ h_ D m dcap w hE1 hE2 h4
theorem cells_T25 {w : World} {A : Option Addr} {n : Nat} {l : List S25} (h : Kd.C k25 w A n l) (i : Nat) (hi : i < n) : ∃ ad aq A2 c2, A = some ad ∧ ad.add (i * 3) = aq ∧ w.cell? aq = some (.int .i64 (rd_T25 l i).f0) ∧ w.cell? ⟨aq.block, aq.off + 1, none⟩ = some (.int .i64 (rd_T25 l i).f1) ∧ w.cell? ⟨aq.block, aq.off + 2, none⟩ = some (.slice A2 (rd_T25 l i).f2.length c2) ∧ (rd_T25 l i).f2.length ≤ c2 ∧ (Kd.int .u32).C w A2 (rd_T25 l i).f2.length (rd_T25 l i).f2 := by
 obtain ⟨ad, A2, c2, e, h1, h2, h3, h4, h5⟩ := at_T25 h (i : Int) (by omega) (by omega)
 rw [Int.toNat_natCast] at h1 h2 h3
 exact ⟨ad, _, A2, c2, e, rfl, h1, h2, h3, h4, h5⟩
theorem rd_s25 {ps : List Pl} {i : Nat} (hi : i < ps.length) : rd_T25 (ps.map Pl.s25) (i : Int) = (ps.getD i plz).s25 := by
 unfold rd_T25
 rw [Int.toNat_natCast, List.getD_eq_getElem?_getD, List.getD_eq_getElem?_getD, List.getElem?_map, List.getElem?_eq_getElem hi]
 rfl
/-- a plane of a list -/
theorem cells_s25 {w : World} {A : Option Addr} {n : Nat} {ps : List Pl} (h : Kd.C k25 w A n (ps.map Pl.s25)) (i : Nat) (hi : i < n) : ∃ ad aq A2 n2 c2, A = some ad ∧ ad.add (i * 3) = aq ∧ w.cell? aq = some (.int .i64 ((ps.getD i plz).w : Int)) ∧ w.cell? ⟨aq.block, aq.off + 1, none⟩ = some (.int .i64 ((ps.getD i plz).h : Int)) ∧ w.cell? ⟨aq.block, aq.off + 2, none⟩ = some (.slice A2 n2 c2) ∧ PL w A2 n2 c2 (ps.getD i plz).s := by
 have hl : i < ps.length := by have := Kd.C_len h; rw [List.length_map] at this; omega
 obtain ⟨ad, aq, A2, c2, e, e2, h1, h2, h3, h4, h5⟩ := cells_T25 h i hi
 rw [rd_s25 hl] at h1 h2 h3 h4 h5
 have e3 : (ps.getD i plz).s25.f2.length = (ps.getD i plz).s.length := ints_length _
 rw [e3] at h3 h4 h5
 exact ⟨ad, aq, A2, _, c2, e, e2, h1, h2, h3, C_nats h5, h4, rfl⟩
set_option maxHeartbeats 1000000 in
set_option maxRecDepth 100000 in
theorem Restore_many (A : Option Addr) (n cap : Nat) (w : World) (hn : n = 0 ∨ 13 < n) :
    Calls Try.prog 40 #[.slice A n cap] w fun e w' => e = .returned (.tuple #[.agg #[.int .i64 0, .int .i64 0, .slice none 0 0], .int .i64 140]) ∧ Below w.heap.size w w' := by
 have hu25 := Try.underlying25
 by_cases h0 : n = 0
 ·subst h0
  clear hn
  go_enter Try.func40, Try.ntmps40
  go_wp2_with (first | ((with_reducible refine gate_dst (N := 2) rfl ?_); refine box_event ?hg (N := 2) ?hd (cs := #[.int .i64 0, .int .i64 0, .slice none 0 0]) (t := 25) ?hr ?_; (case hd => rfl); (case hg => rfl); (case hr => first | (go_simp; done) | (go_simp; rfl)); intro gR hg_ w1 hm_ hb_; have R1 := Aside0.mk (hm_); have B1 := Aside0.mk (hb_); have GR := Aside0.mk (show w.heap.size ≤ gR by rw [hg_]; exact Nat.le_refl _); clear hm_ hb_ hg_) | ((with_reducible refine gate_store (p := 2) rfl ?_); refine storeP_event rfl rfl rfl gR 0 0 none 0 0 _ _ _ rfl rfl R1.out ?_; intro wz hm_ hst_ hbl_; have Rz := Aside0.mk (hm_); have Bz := Aside0.mk (B1.out.trans (hbl_ _ GR.out)); clear hm_ hst_ hbl_))
  refine bodyPost_ret (results_ct rfl _ _ gR 25 #[.int .i64 0, .int .i64 0, .slice none 0 0] (0, 0) _ rfl Rz.out Try.underlying25 rfl (by kernel_rfl)) rfl ?_
  exact ⟨rfl, Bz.out⟩
 ·have t1 : ((n : Int) == 0) = false := by rw [beq_eq_false_iff_ne]; omega
  have t2 : decide ((13 : Int) < (n : Int)) = true := decide_eq_true (by omega)
  have t3 : decide (13 < n) = true := decide_eq_true (by omega)
  have t4 : (n == 0) = false := by rw [beq_eq_false_iff_ne]; omega
  clear hn h0
  go_enter Try.func40, Try.ntmps40
  go_wp2_with (first | ((with_reducible refine gate_dst (N := 2) rfl ?_); refine box_event ?hg (N := 2) ?hd (cs := #[.int .i64 0, .int .i64 0, .slice none 0 0]) (t := 25) ?hr ?_; (case hd => rfl); (case hg => rfl); (case hr => first | (go_simp; done) | (go_simp; rfl)); intro gR hg_ w1 hm_ hb_; have R1 := Aside0.mk (hm_); have B1 := Aside0.mk (hb_); have GR := Aside0.mk (show w.heap.size ≤ gR by rw [hg_]; exact Nat.le_refl _); clear hm_ hb_ hg_) | ((with_reducible refine gate_store (p := 2) rfl ?_); refine storeP_event rfl rfl rfl gR 0 0 none 0 0 _ _ _ rfl rfl R1.out ?_; intro wz hm_ hst_ hbl_; have Rz := Aside0.mk (hm_); have Bz := Aside0.mk (B1.out.trans (hbl_ _ GR.out)); clear hm_ hst_ hbl_))
  refine bodyPost_ret (results_ct rfl _ _ gR 25 #[.int .i64 0, .int .i64 0, .slice none 0 0] (0, 0) _ rfl Rz.out Try.underlying25 rfl (by kernel_rfl)) rfl ?_
  exact ⟨rfl, Bz.out⟩
set_option maxHeartbeats 4000000 in
set_option maxRecDepth 100000 in
theorem Restore_bad (l : List S25) (A : Option Addr) (n cap : Nat) (w : World) (hC : Kd.C k25 w A n l) (hn : 1 ≤ n ∧ n ≤ 13) (b : Nat) (hb : b < n) (hpre : ∀ i, i < b → chk l i = 0) (hbad : chk l b ≠ 0) :
    Calls Try.prog 40 #[.slice A n cap] w fun e w' => e = .returned (.tuple #[.agg #[.int .i64 0, .int .i64 0, .slice none 0 0], .int .i64 ((chk l b : Nat) : Int)]) ∧ Below w.heap.size w w' := by
 have hu25 := Try.underlying25
 have HC := Aside0.mk hC
 have HPR := Aside0.mk hpre
 have t1 : ((n : Int) == 0) = false := by rw [beq_eq_false_iff_ne]; omega
 have t2 : decide ((13 : Int) < (n : Int)) = false := decide_eq_false (by omega)
 have t3 : decide (13 < n) = false := decide_eq_false (by omega)
 have t4 : (n == 0) = false := by rw [beq_eq_false_iff_ne]; omega
 obtain ⟨c, hc⟩ : ∃ c, chk l b = c := ⟨_, rfl⟩
 rw [hc] at hbad ⊢
 have HBC := Aside0.mk hc
 have t5 : ((c : Int) != 0) = true := by rw [bne_iff_ne]; omega
 clear hC hpre hbad hc
 go_enter Try.func40, Try.ntmps40
 go_wp2_with (first | ((with_reducible refine gate_dst (N := 2) rfl ?_); refine box_event ?hg (N := 2) ?hd (cs := #[.int .i64 0, .int .i64 0, .slice none 0 0]) (t := 25) ?hr ?_; (case hd => rfl); (case hg => rfl); (case hr => first | (go_simp; done) | (go_simp; rfl)); intro gR hg_ w1 hm_ hb_; have R1 := Aside0.mk (hm_); have B1 := Aside0.mk (hb_); have GR := Aside0.mk (show w.heap.size ≤ gR by rw [hg_]; exact Nat.le_refl _); clear hm_ hb_ hg_))
 go_loopw [22] (fun iv wr => ∃ (i : Nat), i ≤ b ∧ iv = .int .i64 (i : Int) ∧ Aside0 (wr.heap[gR]? = some (.cells #[.int .i64 0, .int .i64 0, .slice none 0 0] 25 (0, 0))) ∧ Aside0 (Below w.heap.size w wr)) (fun iv _ => b - (intOf iv).toNat)
 case atStart => exact ⟨0, Nat.zero_le _, rfl, R1, B1⟩
 case round =>
  clear R1 B1
  obtain ⟨i, hi, rfl, RI, BI⟩ := hrel
  have hlt : i < n := by omega
  have c1 : decide ((i : Int) < (n : Int)) = true := decide_eq_true (by omega)
  have i1 : ((i : Int) < (n : Int)) = True := eq_true (by omega)
  obtain ⟨ad, aq, A2, c2, rfl, haq, y0, y1, y2, hc2, hC2⟩ := cells_T25 (Kd.C_below HC.out BI.out) i hlt
  obtain ⟨x, hx⟩ : ∃ x, (rd_T25 l (i : Int)).f0 = x := ⟨_, rfl⟩
  obtain ⟨y, hy⟩ : ∃ y, (rd_T25 l (i : Int)).f1 = y := ⟨_, rfl⟩
  obtain ⟨m, hm⟩ : ∃ m, (rd_T25 l (i : Int)).f2.length = m := ⟨_, rfl⟩
  have HM : Aside0 (m < 9223372036854775808) := ⟨by have := Kd.C_max hC2; omega⟩
  have hck : checkE x y m = chk l i := by unfold chk; rw [hx, hy, hm]
  rw [hx] at y0
  rw [hy] at y1
  rw [hm] at y2 hc2
  clear hC2 hx hy hm
  by_cases hib : i < b
  ·have HE : Aside0 (checkE x y m = 0) := ⟨by rw [hck]; exact HPR.out i hib⟩
   clear hck hc2
   go_wp2_with (first | ((with_reducible refine gate_dst (N := 5) rfl ?_); refine box_event ?hg (N := 5) ?hd (cs := #[.int .i64 0, .int .i64 0, .slice none 0 0]) (t := 25) ?hr ?_; (case hd => rfl); (case hg => rfl); (case hr => first | (go_simp; done) | (go_simp; rfl)); intro g5 hg_ w2 hm_ hb_; have R2 := Aside0.mk (blk_below RI.out hb_); have Z2 := Aside0.mk (hm_); have B2 := Aside0.mk (below_step BI.out hb_); have G5 := Aside0.mk (show w.heap.size ≤ g5 by rw [hg_]; exact below_size BI.out); have NR5 := Aside0.mk (show gR ≠ g5 by rw [hg_]; have := blk_lt RI.out; omega); clear hm_ hb_ hg_) | ((with_reducible refine gate_store (p := 5) rfl ?_); refine storeP_event rfl rfl rfl g5 x y A2 m c2 _ _ _ rfl rfl Z2.out ?_; intro w3 hm_ hst_ hbl_; have Z3 := Aside0.mk (hm_); have R3 := Aside0.mk ((hst_ gR NR5.out).trans R2.out); have B3 := Aside0.mk (B2.out.trans (hbl_ _ G5.out)); clear Z2 R2 B2; have p0 := (blk_cell Z3.out 0).trans rfl; have p1 := (blk_cell Z3.out 1).trans rfl; have p2 := (blk_cell Z3.out 2).trans rfl; clear hm_ hst_ hbl_) | (go_at_call 51; refine (Check_calls x y A2 m c2 _ HM.out).mono ?_; rw [HE.out]; rintro e w4 ⟨rfl, hb⟩; have R4 := Aside0.mk (blk_below R3.out hb); have B4 := Aside0.mk (below_step B3.out hb); clear hb p0 p1 p2 R3 B3 Z3))
   go_roundw
   case measure => simp [intOf]; omega
   case rel => exact ⟨i + 1, by omega, by go_num, R4, B4⟩
  ·obtain rfl : i = b := by omega
   have HE : Aside0 (checkE x y m = c) := ⟨by rw [hck]; exact HBC.out⟩
   clear hck hc2
   go_wp2_with (first | ((with_reducible refine gate_dst (N := 5) rfl ?_); refine box_event ?hg (N := 5) ?hd (cs := #[.int .i64 0, .int .i64 0, .slice none 0 0]) (t := 25) ?hr ?_; (case hd => rfl); (case hg => rfl); (case hr => first | (go_simp; done) | (go_simp; rfl)); intro g5 hg_ w2 hm_ hb_; have R2 := Aside0.mk (blk_below RI.out hb_); have Z2 := Aside0.mk (hm_); have B2 := Aside0.mk (below_step BI.out hb_); have G5 := Aside0.mk (show w.heap.size ≤ g5 by rw [hg_]; exact below_size BI.out); have NR5 := Aside0.mk (show gR ≠ g5 by rw [hg_]; have := blk_lt RI.out; omega); clear hm_ hb_ hg_) | ((with_reducible refine gate_store (p := 5) rfl ?_); refine storeP_event rfl rfl rfl g5 x y A2 m c2 _ _ _ rfl rfl Z2.out ?_; intro w3 hm_ hst_ hbl_; have Z3 := Aside0.mk (hm_); have R3 := Aside0.mk ((hst_ gR NR5.out).trans R2.out); have B3 := Aside0.mk (B2.out.trans (hbl_ _ G5.out)); clear Z2 R2 B2; have p0 := (blk_cell Z3.out 0).trans rfl; have p1 := (blk_cell Z3.out 1).trans rfl; have p2 := (blk_cell Z3.out 2).trans rfl; clear hm_ hst_ hbl_) | (go_at_call 51; refine (Check_calls x y A2 m c2 _ HM.out).mono ?_; rw [HE.out]; rintro e w4 ⟨rfl, hb⟩; have R4 := Aside0.mk (blk_below R3.out hb); have B4 := Aside0.mk (below_step B3.out hb); clear hb p0 p1 p2 R3 B3 Z3) | ((with_reducible refine gate_store (p := 2) rfl ?_); refine storeP_event rfl rfl rfl gR 0 0 none 0 0 _ _ _ rfl rfl R4.out ?_; intro wz hm_ hst_ hbl_; have Rz := Aside0.mk (hm_); have Bz := Aside0.mk (B4.out.trans (hbl_ _ GR.out)); clear hm_ hst_ hbl_))
   refine bodyPost_ret (results_ct rfl _ _ gR 25 #[.int .i64 0, .int .i64 0, .slice none 0 0] (0, 0) _ rfl Rz.out Try.underlying25 rfl (by kernel_rfl)) rfl ?_
   exact ⟨rfl, Bz.out⟩
set_option maxHeartbeats 8000000 in
set_option maxRecDepth 100000 in
theorem Restore_main (ps : List Pl) (A : Option Addr) (n cap : Nat) (w : World) (hC : Kd.C k25 w A n (ps.map Pl.s25)) (hn : 1 ≤ n ∧ n ≤ 13) (hok : ∀ i, i < n → (Pl.mk (ps.getD i plz).w (ps.getD i plz).h (ps.getD i plz).s).ok) :
    Calls Try.prog 40 #[.slice A n cap] w fun e w' => ((∀ k, k < n → (rsts ps k).1 = 0) → ∃ v, e = .returned (.tuple #[.agg #[.int .i64 ((rsts ps (n - 1)).2.w : Int), .int .i64 ((rsts ps (n - 1)).2.h : Int), v], .int .i64 0]) ∧ (nat .u32).R 50 w' w.heap.size (fun _ => True) v (rsts ps (n - 1)).2.s) ∧ ((∃ k, k < n ∧ (rsts ps k).1 ≠ 0) → e = .returned (.tuple #[.agg #[.int .i64 0, .int .i64 0, .slice none 0 0], .int .i64 141])) ∧ Below w.heap.size w w' := by
 have hu25 := Try.underlying25
 have HC := Aside0.mk hC
 have HOK := Aside0.mk hok
 have HPL : Aside0 (ps.length = n) := ⟨by have := Kd.C_len hC; rwa [List.length_map] at this⟩
 have t1 : ((n : Int) == 0) = false := by rw [beq_eq_false_iff_ne]; omega
 have t2 : decide ((13 : Int) < (n : Int)) = false := decide_eq_false (by omega)
 have t3 : decide (13 < n) = false := decide_eq_false (by omega)
 have t4 : (n == 0) = false := by rw [beq_eq_false_iff_ne]; omega
 clear hC hok
 go_enter Try.func40, Try.ntmps40
 go_wp2_with (first | ((with_reducible refine gate_dst (N := 2) rfl ?_); refine box_event ?hg (N := 2) ?hd (cs := #[.int .i64 0, .int .i64 0, .slice none 0 0]) (t := 25) ?hr ?_; (case hd => rfl); (case hg => rfl); (case hr => first | (go_simp; done) | (go_simp; rfl)); intro gR hg_ w1 hm_ hb_; have R1 := Aside0.mk (hm_); have B1 := Aside0.mk (hb_); have GR := Aside0.mk (show w.heap.size ≤ gR by rw [hg_]; exact Nat.le_refl _); clear hm_ hb_ hg_))
 go_loopw [22] (fun iv wr => ∃ (i : Nat), i ≤ n ∧ iv = .int .i64 (i : Int) ∧ Aside0 (wr.heap[gR]? = some (.cells #[.int .i64 0, .int .i64 0, .slice none 0 0] 25 (0, 0))) ∧ Aside0 (Below w.heap.size w wr)) (fun iv _ => n - (intOf iv).toNat)
 case atStart => exact ⟨0, Nat.zero_le _, rfl, R1, B1⟩
 case round =>
  clear R1 B1
  obtain ⟨i, hi, rfl, RI, BI⟩ := hrel
  by_cases hlt : i < n
  ·have c1 : decide ((i : Int) < (n : Int)) = true := decide_eq_true (by omega)
   have i1 : ((i : Int) < (n : Int)) = True := eq_true (by omega)
   obtain ⟨q, hq⟩ : ∃ q, ps.getD i plz = q := ⟨_, rfl⟩
   obtain ⟨ad, aq, A2, m, c2, rfl, haq, y0, y1, y2, hQL⟩ := cells_s25 (Kd.C_below HC.out BI.out) i hlt
   rw [hq] at y0 y1 hQL
   have hqo := HOK.out i hlt
   rw [hq] at hqo
   obtain ⟨x, hx⟩ : ∃ x : Int, (q.w : Int) = x := ⟨_, rfl⟩
   obtain ⟨y, hy⟩ : ∃ y : Int, (q.h : Int) = y := ⟨_, rfl⟩
   have HM : Aside0 (m < 9223372036854775808) := ⟨hQL.lt⟩
   have HE : Aside0 (checkE x y m = 0) := ⟨by rw [← hx, ← hy, ← hQL.2.2]; exact hqo.checkE⟩
   rw [hx] at y0
   rw [hy] at y1
   clear hQL hqo hx hy hq
   go_wp2_with (first | ((with_reducible refine gate_dst (N := 5) rfl ?_); refine box_event ?hg (N := 5) ?hd (cs := #[.int .i64 0, .int .i64 0, .slice none 0 0]) (t := 25) ?hr ?_; (case hd => rfl); (case hg => rfl); (case hr => first | (go_simp; done) | (go_simp; rfl)); intro g5 hg_ w2 hm_ hb_; have R2 := Aside0.mk (blk_below RI.out hb_); have Z2 := Aside0.mk (hm_); have B2 := Aside0.mk (below_step BI.out hb_); have G5 := Aside0.mk (show w.heap.size ≤ g5 by rw [hg_]; exact below_size BI.out); have NR5 := Aside0.mk (show gR ≠ g5 by rw [hg_]; have := blk_lt RI.out; omega); clear hm_ hb_ hg_) | ((with_reducible refine gate_store (p := 5) rfl ?_); refine storeP_event rfl rfl rfl g5 x y A2 m c2 _ _ _ rfl rfl Z2.out ?_; intro w3 hm_ hst_ hbl_; have Z3 := Aside0.mk (hm_); have R3 := Aside0.mk ((hst_ gR NR5.out).trans R2.out); have B3 := Aside0.mk (B2.out.trans (hbl_ _ G5.out)); clear Z2 R2 B2; have p0 := (blk_cell Z3.out 0).trans rfl; have p1 := (blk_cell Z3.out 1).trans rfl; have p2 := (blk_cell Z3.out 2).trans rfl; clear hm_ hst_ hbl_) | (go_at_call 51; refine (Check_calls x y A2 m c2 _ HM.out).mono ?_; rw [HE.out]; rintro e w4 ⟨rfl, hb⟩; have R4 := Aside0.mk (blk_below R3.out hb); have B4 := Aside0.mk (below_step B3.out hb); clear hb p0 p1 p2 R3 B3 Z3))
   go_roundw
   case measure => simp [intOf]; omega
   case rel => exact ⟨i + 1, by omega, by go_num, R4, B4⟩
  ·obtain rfl : i = n := by omega
   have c1 : decide ((i : Int) < (i : Int)) = false := decide_eq_false (by omega)
   obtain ⟨j, rfl⟩ : ∃ j, i = j + 1 := ⟨i - 1, by omega⟩
   have hj : j + 1 - 1 = j := by omega
   have hji : j < j + 1 := by omega
   have e1 : wrap64 ((j : Int) + 1 - 1) = (j : Int) := by rw [Int.add_sub_cancel]; exact w64 (by omega) (by omega)
   have e2 : wrap64 ((j : Int) - 1) = (j : Int) - 1 := w64 (by omega) (by omega)
   have i1 : ((j : Int) < (j : Int) + 1) = True := eq_true (by omega)
   obtain ⟨q, hq⟩ : ∃ q, ps.getD j plz = q := ⟨_, rfl⟩
   obtain ⟨ad, aq, A2, m, c2, rfl, haq, y0_, y1_, y2_, hQL⟩ := cells_s25 HC.out j hji
   rw [hq] at y0_ y1_ hQL
   have y0 := pw_cell_below BI.out y0_
   have y1 := pw_cell_below BI.out y1_
   have y2 := pw_cell_below BI.out y2_
   clear y0_ y1_ y2_
   have hqo := HOK.out j hji
   rw [hq] at hqo
   have HQO := Aside0.mk hqo
   have HQL := Aside0.mk hQL
   have HR0 : Aside0 (rsts ps 0 = (0, q)) := ⟨by rw [← hq, ← hj, ← HPL.out]; rfl⟩
   have HJ1 := Aside0.mk hj
   clear hQL hqo hq hj
   go_wp2_with (first | ((with_reducible refine gate_dst (N := 8) rfl ?_); refine box_event ?hg (N := 8) ?hd (cs := #[.int .i64 0, .int .i64 0, .slice none 0 0]) (t := 25) ?hr ?_; (case hd => rfl); (case hg => rfl); (case hr => first | (go_simp; done) | (go_simp; rfl)); intro g8 hg_ w5 hm_ hb_; have R5 := Aside0.mk (blk_below RI.out hb_); have Z5 := Aside0.mk (hm_); have B5 := Aside0.mk (below_step BI.out hb_); have G8 := Aside0.mk (show w.heap.size ≤ g8 by rw [hg_]; exact below_size BI.out); have NR8 := Aside0.mk (show gR ≠ g8 by rw [hg_]; have := blk_lt RI.out; omega); clear hm_ hb_ hg_) | ((with_reducible refine gate_store (p := 8) rfl ?_); refine storeP_event rfl rfl rfl g8 (q.w : Int) (q.h : Int) A2 m c2 _ _ _ rfl rfl Z5.out ?_; intro w6 hm_ hst_ hbl_; have Z6 := Aside0.mk (hm_); have R6 := Aside0.mk ((hst_ gR NR8.out).trans R5.out); have B6 := Aside0.mk (B5.out.trans (hbl_ _ G8.out)); clear Z5 R5 B5; have p0 := (blk_cell Z6.out 0).trans rfl; have p1 := (blk_cell Z6.out 1).trans rfl; have p2 := (blk_cell Z6.out 2).trans rfl; clear hm_ hst_ hbl_) | (go_at_call 68; refine (Crop_whole q.w q.h q.s A2 m c2 _ HQO.out (HQL.out.below B6.out)).mono ?_; rintro e w7 ⟨v7, rfl, hR, hb⟩; obtain ⟨A7, c7, hv7⟩ := Kd.R_slice hR; obtain ⟨n7, hn7⟩ : ∃ n7, q.s.length = n7 := ⟨_, rfl⟩; rw [hn7] at hv7; subst hv7; have V7 := Aside0.mk (Kd.R_lower hR B6.out.size); have R7 := Aside0.mk (blk_below R6.out hb); have B7 := Aside0.mk (below_step B6.out hb); clear hR hn7 hb p0 p1 p2 R6 B6 Z6) | ((with_reducible refine gate_dst (N := 9) rfl ?_); refine box_event ?hg (N := 9) ?hd (cs := #[.int .i64 0, .int .i64 0, .slice none 0 0]) (t := 25) ?hr ?_; (case hd => rfl); (case hg => rfl); (case hr => first | (go_simp; done) | (go_simp; rfl)); intro g9 hg_ w8 hm_ hb_; have R8 := Aside0.mk (blk_below R7.out hb_); have Z8 := Aside0.mk (hm_); have B8 := Aside0.mk (below_step B7.out hb_); have V8 := Aside0.mk (Kd.R_below V7.out hb_); have G9 := Aside0.mk (show w.heap.size ≤ g9 by rw [hg_]; exact below_size B7.out); have NR9 := Aside0.mk (show gR ≠ g9 by rw [hg_]; have := blk_lt R7.out; omega); clear hm_ hb_ hg_ R7 B7 V7) | ((with_reducible refine gate_store (p := 9) rfl ?_); refine storeP_event rfl rfl rfl g9 (q.w : Int) (q.h : Int) A7 n7 c7 _ _ _ rfl rfl Z8.out ?_; intro w9 hm_ hst_ hbl_; have Z9 := Aside0.mk (hm_); have R9 := Aside0.mk ((hst_ gR NR9.out).trans R8.out); have B9 := Aside0.mk (B8.out.trans (hbl_ _ G9.out)); have V9 := Aside0.mk (Kd.R_mono (Kd.R_move (Kd.R_types V8.out Z8.out (by decide)) (fun k hk => hst_ k hk.2)) (fun _ _ => trivial)); clear Z8 R8 B8 V8; clear hm_ hst_ hbl_))
   clear y0 y1 y2 RI BI e1 e2 haq
   have HJI := Aside0.mk hji
   go_loopw [7, 10] (fun jv ev wr => ∃ (k : Nat) (c : Nat) (p : Pl) (Ap : Option Addr) (np cp : Nat), k ≤ j ∧ (∃ z : Int, jv = .int .i64 z ∧ z = (j : Int) - 1 - (k : Int)) ∧ ev = .int .i64 (c : Int) ∧ Aside0 (rsts ps k = (c, p) ∧ ∀ k', k' < k → (rsts ps k').1 = 0) ∧ Aside0 (wr.heap[gR]? = some (.cells #[.int .i64 0, .int .i64 0, .slice none 0 0] 25 (0, 0))) ∧ Aside0 (Below w.heap.size w wr) ∧ Aside0 (c = 0 → wr.heap[g9]? = some (.cells #[.int .i64 (p.w : Int), .int .i64 (p.h : Int), .slice Ap np cp] 25 (0, 0)) ∧ (nat .u32).R 50 wr w.heap.size (fun _ => True) (.slice Ap np cp) p.s ∧ (Pl.mk p.w p.h p.s).ok)) (fun jv _ _ => ((intOf jv) + 1).toNat)
   case atStart => exact ⟨0, 0, q, A7, n7, c7, Nat.zero_le _, ⟨_, rfl, by simp⟩, rfl, ⟨HR0.out, fun k' hk => absurd hk (Nat.not_lt_zero _)⟩, R9, B9, ⟨fun _ => ⟨Z9.out, V9.out, HQO.out⟩⟩⟩
   case round =>
    clear R9 B9 Z9 V9 HQL
    obtain ⟨k, c, p, Ap, np, cp, hk, ⟨z, rfl, hz⟩, rfl, HK, RI, BI, HP⟩ := hrel
    by_cases hc : c = 0
    ·subst hc
     obtain ⟨ZI, VI, hpo⟩ := HP.out rfl
     have t6 : (((0 : Nat) : Int) == 0) = true := rfl
     have t7 : (((0 : Nat) : Int) != 0) = false := rfl
     by_cases hkj : k < j
     ·obtain ⟨jj, hjj⟩ : ∃ jj : Nat, j - 1 - k = jj := ⟨_, rfl⟩
      obtain rfl : z = (jj : Int) := by omega
      have HZZ := Aside0.mk hz
      have hjn : jj < j + 1 := by omega
      have t5 : decide ((0 : Int) ≤ (jj : Int)) = true := decide_eq_true (by omega)
      have e3 : wrap64 ((jj : Int) - 1) = (jj : Int) - 1 := w64 (by omega) (by omega)
      have i1 : ((jj : Int) < (j : Int) + 1) = True := eq_true (by omega)
      obtain ⟨q', hq'⟩ : ∃ q', ps.getD jj plz = q' := ⟨_, rfl⟩
      obtain ⟨ad, aq, A2, m, c2, hA, haq, y0_, y1_, y2_, hQL⟩ := cells_s25 HC.out jj hjn
      injection hA with hA
      subst hA
      rw [hq'] at y0_ y1_ hQL
      have y0 := pw_cell_below BI.out y0_
      have y1 := pw_cell_below BI.out y1_
      have y2 := pw_cell_below BI.out y2_
      clear y0_ y1_ y2_
      have hqo := HOK.out jj hjn
      rw [hq'] at hqo
      have HSU : Aside0 (rsts ps (k + 1) = if hf q'.w = p.w ∧ hf q'.h = p.h then (0, ⟨q'.w, q'.h, joiS p.w p.h q'.w q'.h p.s q'.s⟩) else (141, p)) := ⟨by
       have e9 : ps.length - 2 - k = jj := by rw [HPL.out]; omega
       rw [rsts, e9, hq', HK.out.1]⟩
      have HZ0 : Aside0 (∀ k', k' < k + 1 → (rsts ps k').1 = 0) := ⟨fun k' hk' => by
       by_cases h9 : k' < k
       ·exact HK.out.2 k' h9
       ·obtain rfl : k' = k := by omega
        rw [HK.out.1]⟩
      have ZI := Aside0.mk ZI
      have VI := Aside0.mk VI
      obtain ⟨n9, hcp, hCP⟩ := Kd.R_reads' VI.out
      have HPN := Aside0.mk n9.symm
      have HCP := Aside0.mk hcp
      have CPI : Aside0 ((nat .u32).C wr Ap np p.s) := ⟨by rw [← n9] at hCP; exact hCP⟩
      have HPO := Aside0.mk hpo
      have HQO := Aside0.mk hqo
      have HQL := Aside0.mk hQL
      have HKJ := Aside0.mk hkj
      clear n9 hcp hCP hpo hqo hQL hq' HP HK hz hjj
      by_cases hform : hf q'.w = p.w ∧ hf q'.h = p.h
      ·have HW := Aside0.mk hform.1
       have HH := Aside0.mk hform.2
       have HSV : Aside0 (rsts ps (k + 1) = (0, ⟨q'.w, q'.h, joiS p.w p.h q'.w q'.h p.s q'.s⟩)) := ⟨by rw [HSU.out, if_pos hform]⟩
       clear hform HSU
       go_upto_region 16 with (fail)
       have hbD : Below wr.heap.size wr wr.drew := below_drew1 (Below.refl _ _)
       have ZD := Aside0.mk (blk_below ZI.out hbD)
       have RD := Aside0.mk (blk_below RI.out hbD)
       have BD := Aside0.mk (below_step BI.out hbD)
       have HQD := Aside0.mk (HQL.out.below BD.out)
       have CPD := Aside0.mk (Kd.C_below CPI.out hbD)
       have Y0 : Aside0 (wr.drew.cell? aq = some (.int .i64 (q'.w : Int))) := ⟨y0⟩
       have Y1 : Aside0 (wr.drew.cell? ⟨aq.block, aq.off + 1, none⟩ = some (.int .i64 (q'.h : Int))) := ⟨y1⟩
       have Y2 : Aside0 (wr.drew.cell? ⟨aq.block, aq.off + 2, none⟩ = some (.slice A2 m c2)) := ⟨y2⟩
       clear hbD y0 y1 y2 RI BI ZI VI
       refine start_ (n := 11) (S := fun w' => w'.cell? ⟨g9, 0, none⟩ = some (.int .i64 (p.w : Int)) ∧ w'.cell? ⟨g9, 1, none⟩ = some (.int .i64 (p.h : Int)) ∧ w'.cell? ⟨g9, 2, none⟩ = some (.slice Ap np cp) ∧ w'.cell? aq = some (.int .i64 (q'.w : Int)) ∧ w'.cell? ⟨aq.block, aq.off + 1, none⟩ = some (.int .i64 (q'.h : Int)) ∧ w'.cell? ⟨aq.block, aq.off + 2, none⟩ = some (.slice A2 m c2)) (ds := [5, 9]) #[ff_,ff_,ff_,ff_,ff_,ff_,ff_,ff_,ff_,ff_,ff_] (by kernel_rfl) rfl rfl ⟨(blk_cell ZD.out 0).trans rfl, (blk_cell ZD.out 1).trans rfl, (blk_cell ZD.out 2).trans rfl, Y0.out, Y1.out, Y2.out⟩ (fun hHeld => ?_)
       generalize wr.drew = wd at *
       refine pure_ (i := 1) (N := some 62) (v := ?_) (a' := ?_) #[ff_,tt_,ff_,ff_,ff_,ff_,ff_,ff_,ff_,ff_,ff_] rfl rfl (by kernel_rfl) (fun _ _ _ h => h) (Or.inl ⟨by rfl, ?_⟩) ?_ ?_
       rotate_left
       ·intro w'
        go_simp
        with_reducible rfl
       rotate_left
       ·simp only [Act.put, List.setIfInBounds_toArray, List.set_cons_zero, List.set_cons_succ, i64_w, i32_w]
        rfl
       refine pure_ (i := 2) (N := some 63) (v := ?_) (a' := ?_) #[ff_,tt_,tt_,ff_,ff_,ff_,ff_,ff_,ff_,ff_,ff_] rfl rfl (by kernel_rfl) (fun _ _ _ h => h) (Or.inl ⟨by rfl, ?_⟩) ?_ ?_
       rotate_left
       ·intro w'
        go_simp
        with_reducible rfl
       rotate_left
       ·simp only [Act.put, List.setIfInBounds_toArray, List.set_cons_zero, List.set_cons_succ, i64_w, i32_w]
        rfl
       refine pure_ (i := 3) (N := some 64) (v := ?_) (a' := ?_) #[ff_,tt_,tt_,tt_,ff_,ff_,ff_,ff_,ff_,ff_,ff_] rfl rfl (by kernel_rfl) (fun _ _ _ h => h) (Or.inl ⟨by rfl, ?_⟩) ?_ ?_
       rotate_left
       ·intro w'
        go_simp
        with_reducible rfl
       rotate_left
       ·simp only [Act.put, List.setIfInBounds_toArray, List.set_cons_zero, List.set_cons_succ, i64_w, i32_w]
        rfl
       refine take_ (i := 0) (N := some 61) (v := ?_) (a' := ?_) #[tt_,tt_,tt_,tt_,ff_,ff_,ff_,ff_,ff_,ff_,ff_] rfl rfl (by kernel_rfl) (fun _ _ _ h => h) (Or.inl ⟨by rfl, ?_⟩) hHeld ?_ ?_
       rotate_left
       ·rintro w' ⟨s0, s1, s2, s3, s4, s5⟩
        go_simp
        with_reducible rfl
       rotate_left
       ·simp only [Act.put, List.setIfInBounds_toArray, List.set_cons_zero, List.set_cons_succ, i64_w, i32_w]
        rfl
       refine take_ (i := 4) (N := some 65) (v := ?_) (a' := ?_) #[tt_,tt_,tt_,tt_,tt_,ff_,ff_,ff_,ff_,ff_,ff_] rfl rfl (by kernel_rfl) (fun _ _ _ h => h) (Or.inl ⟨by rfl, ?_⟩) hHeld ?_ ?_
       rotate_left
       ·rintro w' ⟨s0, s1, s2, s3, s4, s5⟩
        go_simp
        with_reducible rfl
       rotate_left
       ·simp only [Act.put, List.setIfInBounds_toArray, List.set_cons_zero, List.set_cons_succ, i64_w, i32_w]
        rfl
       refine last_ (i := 5) (N := some 66) #[tt_,tt_,tt_,tt_,tt_,tt_,ff_,ff_,ff_,ff_,ff_] rfl rfl (by kernel_rfl) (by decide) (fun K hK => ?_)
       refine goes_ Try.func33 (by kernel_rfl) rfl #[.agg #[.int .i64 (p.w : Int), .int .i64 (p.h : Int), .slice Ap np cp], .agg #[.int .i64 (q'.w : Int), .int .i64 (q'.h : Int), .slice A2 m c2]] (by rfl) rfl rfl (by (try simp only [List.map_toArray, List.map_cons, List.map_nil]); rfl) ?_
       refine (Join_ok p.w p.h Ap np cp q'.w q'.h A2 m c2 p.s q'.s _ HPO.out HQO.out HPN.out HQD.out.2.2 CPD.out HCP.out HQD.out.1 HW.out HH.out).mono ?_
       rintro e w11 ⟨v11, rfl, hR, hb⟩
       refine ⟨_, rfl, ?_⟩
       obtain ⟨A11, c11, hv11⟩ := Kd.R_slice hR
       obtain ⟨n11, hn11⟩ : ∃ n11, (joiS p.w p.h q'.w q'.h p.s q'.s).length = n11 := ⟨_, rfl⟩
       rw [hn11] at hv11
       subst hv11
       have V11 := Aside0.mk (Kd.R_lower hR BD.out.size)
       have Z11 := Aside0.mk (blk_below ZD.out hb)
       have R11 := Aside0.mk (blk_below RD.out hb)
       have B11 := Aside0.mk (below_step BD.out hb)
       clear hR hn11 hb
       refine hK.out _ _ ?_
       clear hK K
       refine norm_ (a' := ?_) ?_ ?_
       rotate_left
       ·show Act.put _ (some 66) _ = _
        simp only [Act.put, List.setIfInBounds_toArray, List.set_cons_zero, List.set_cons_succ, i64_w, i32_w]
        rfl
       refine pure_ (i := 6) (N := some 60) (v := ?_) (a' := ?_) #[tt_,tt_,tt_,tt_,tt_,tt_,tt_,ff_,ff_,ff_,ff_] rfl rfl (by kernel_rfl) (fun _ _ _ h => h) (Or.inl ⟨by rfl, ?_⟩) ?_ ?_
       rotate_left
       ·intro w'
        go_simp
        with_reducible rfl
       rotate_left
       ·simp only [Act.put, List.setIfInBounds_toArray, List.set_cons_zero, List.set_cons_succ, i64_w, i32_w]
        rfl
       refine pure_ (i := 7) (N := some 67) (v := ?_) (a' := ?_) #[tt_,tt_,tt_,tt_,tt_,tt_,tt_,tt_,ff_,ff_,ff_] rfl rfl (by kernel_rfl) (fun _ _ _ h => h) (Or.inl ⟨by rfl, ?_⟩) ?_ ?_
       rotate_left
       ·intro w'
        go_simp
        with_reducible rfl
       rotate_left
       ·simp only [Act.put, List.setIfInBounds_toArray, List.set_cons_zero, List.set_cons_succ, i64_w, i32_w]
        rfl
       refine pure_ (i := 8) (N := some 68) (v := ?_) (a' := ?_) #[tt_,tt_,tt_,tt_,tt_,tt_,tt_,tt_,tt_,ff_,ff_] rfl rfl (by kernel_rfl) (fun _ _ _ h => h) (Or.inl ⟨by rfl, ?_⟩) ?_ ?_
       rotate_left
       ·intro w'
        go_simp
        with_reducible rfl
       rotate_left
       ·simp only [Act.put, List.setIfInBounds_toArray, List.set_cons_zero, List.set_cons_succ, i64_w, i32_w]
        rfl
       refine last_ (i := 9) (N := none) #[tt_,tt_,tt_,tt_,tt_,tt_,tt_,tt_,tt_,tt_,ff_] rfl rfl (by kernel_rfl) (by decide) (fun K hK => ?_)
       refine storeP_step (by rfl) rfl rfl g9 (q'.w : Int) (q'.h : Int) A11 n11 c11 _ _ _ rfl rfl Z11.out ?_
       intro w12 hm_ hst_ hbl_
       have Z12 := Aside0.mk (hm_)
       have R12 := Aside0.mk ((hst_ gR NR9.out).trans R11.out)
       have B12 := Aside0.mk (B11.out.trans (hbl_ _ G9.out))
       have V12 := Aside0.mk (Kd.R_mono (Kd.R_move (Kd.R_types V11.out Z11.out (by decide)) (fun k hk => hst_ k hk.2)) (fun _ _ => trivial))
       clear hm_ hst_ hbl_
       refine hK.out _ _ ?_
       clear hK K
       refine pure_ (i := 10) (N := some 10) (v := ?_) (a' := ?_) #[tt_,tt_,tt_,tt_,tt_,tt_,tt_,tt_,tt_,tt_,tt_] rfl rfl (by kernel_rfl) (fun _ _ _ h => h) (Or.inl ⟨by rfl, ?_⟩) ?_ ?_
       rotate_left
       ·intro w'
        go_simp
        with_reducible rfl
       rotate_left
       ·simp only [Act.put, List.setIfInBounds_toArray, List.set_cons_zero, List.set_cons_succ, i64_w, i32_w]
        rfl
       refine done_ (by kernel_rfl) ?_
       try go_wp2
       go_roundw
       case measure => first | (simp [intOf]; done) | (simp [intOf]; omega)
       case rel => exact ⟨k + 1, 0, ⟨q'.w, q'.h, joiS p.w p.h q'.w q'.h p.s q'.s⟩, A11, n11, c11, by omega, ⟨_, rfl, by have := HZZ.out; omega⟩, rfl, ⟨HSV.out, HZ0.out⟩, R12, B12, ⟨fun _ => ⟨Z12.out, V12.out, joi_ok HQO.out⟩⟩⟩
      ·have HSV : Aside0 (rsts ps (k + 1) = (141, p)) := ⟨by rw [HSU.out, if_neg hform]⟩
       have HJ := Aside0.mk (fun W => Join_form p.w p.h Ap np cp q'.w q'.h A2 m c2 W (by have := HPO.out.checkE; rwa [HPN.out] at this) (by have := HQO.out.checkE; rwa [HQL.out.2.2] at this) hform)
       clear hform HSU
       go_upto_region 16 with (fail)
       have hbD : Below wr.heap.size wr wr.drew := below_drew1 (Below.refl _ _)
       have ZD := Aside0.mk (blk_below ZI.out hbD)
       have RD := Aside0.mk (blk_below RI.out hbD)
       have BD := Aside0.mk (below_step BI.out hbD)
       have HQD := Aside0.mk (HQL.out.below BD.out)
       have CPD := Aside0.mk (Kd.C_below CPI.out hbD)
       have Y0 : Aside0 (wr.drew.cell? aq = some (.int .i64 (q'.w : Int))) := ⟨y0⟩
       have Y1 : Aside0 (wr.drew.cell? ⟨aq.block, aq.off + 1, none⟩ = some (.int .i64 (q'.h : Int))) := ⟨y1⟩
       have Y2 : Aside0 (wr.drew.cell? ⟨aq.block, aq.off + 2, none⟩ = some (.slice A2 m c2)) := ⟨y2⟩
       clear hbD y0 y1 y2 RI BI ZI VI
       refine start_ (n := 11) (S := fun w' => w'.cell? ⟨g9, 0, none⟩ = some (.int .i64 (p.w : Int)) ∧ w'.cell? ⟨g9, 1, none⟩ = some (.int .i64 (p.h : Int)) ∧ w'.cell? ⟨g9, 2, none⟩ = some (.slice Ap np cp) ∧ w'.cell? aq = some (.int .i64 (q'.w : Int)) ∧ w'.cell? ⟨aq.block, aq.off + 1, none⟩ = some (.int .i64 (q'.h : Int)) ∧ w'.cell? ⟨aq.block, aq.off + 2, none⟩ = some (.slice A2 m c2)) (ds := [5, 9]) #[ff_,ff_,ff_,ff_,ff_,ff_,ff_,ff_,ff_,ff_,ff_] (by kernel_rfl) rfl rfl ⟨(blk_cell ZD.out 0).trans rfl, (blk_cell ZD.out 1).trans rfl, (blk_cell ZD.out 2).trans rfl, Y0.out, Y1.out, Y2.out⟩ (fun hHeld => ?_)
       generalize wr.drew = wd at *
       refine pure_ (i := 1) (N := some 62) (v := ?_) (a' := ?_) #[ff_,tt_,ff_,ff_,ff_,ff_,ff_,ff_,ff_,ff_,ff_] rfl rfl (by kernel_rfl) (fun _ _ _ h => h) (Or.inl ⟨by rfl, ?_⟩) ?_ ?_
       rotate_left
       ·intro w'
        go_simp
        with_reducible rfl
       rotate_left
       ·simp only [Act.put, List.setIfInBounds_toArray, List.set_cons_zero, List.set_cons_succ, i64_w, i32_w]
        rfl
       refine pure_ (i := 2) (N := some 63) (v := ?_) (a' := ?_) #[ff_,tt_,tt_,ff_,ff_,ff_,ff_,ff_,ff_,ff_,ff_] rfl rfl (by kernel_rfl) (fun _ _ _ h => h) (Or.inl ⟨by rfl, ?_⟩) ?_ ?_
       rotate_left
       ·intro w'
        go_simp
        with_reducible rfl
       rotate_left
       ·simp only [Act.put, List.setIfInBounds_toArray, List.set_cons_zero, List.set_cons_succ, i64_w, i32_w]
        rfl
       refine pure_ (i := 3) (N := some 64) (v := ?_) (a' := ?_) #[ff_,tt_,tt_,tt_,ff_,ff_,ff_,ff_,ff_,ff_,ff_] rfl rfl (by kernel_rfl) (fun _ _ _ h => h) (Or.inl ⟨by rfl, ?_⟩) ?_ ?_
       rotate_left
       ·intro w'
        go_simp
        with_reducible rfl
       rotate_left
       ·simp only [Act.put, List.setIfInBounds_toArray, List.set_cons_zero, List.set_cons_succ, i64_w, i32_w]
        rfl
       refine take_ (i := 0) (N := some 61) (v := ?_) (a' := ?_) #[tt_,tt_,tt_,tt_,ff_,ff_,ff_,ff_,ff_,ff_,ff_] rfl rfl (by kernel_rfl) (fun _ _ _ h => h) (Or.inl ⟨by rfl, ?_⟩) hHeld ?_ ?_
       rotate_left
       ·rintro w' ⟨s0, s1, s2, s3, s4, s5⟩
        go_simp
        with_reducible rfl
       rotate_left
       ·simp only [Act.put, List.setIfInBounds_toArray, List.set_cons_zero, List.set_cons_succ, i64_w, i32_w]
        rfl
       refine take_ (i := 4) (N := some 65) (v := ?_) (a' := ?_) #[tt_,tt_,tt_,tt_,tt_,ff_,ff_,ff_,ff_,ff_,ff_] rfl rfl (by kernel_rfl) (fun _ _ _ h => h) (Or.inl ⟨by rfl, ?_⟩) hHeld ?_ ?_
       rotate_left
       ·rintro w' ⟨s0, s1, s2, s3, s4, s5⟩
        go_simp
        with_reducible rfl
       rotate_left
       ·simp only [Act.put, List.setIfInBounds_toArray, List.set_cons_zero, List.set_cons_succ, i64_w, i32_w]
        rfl
       refine last_ (i := 5) (N := some 66) #[tt_,tt_,tt_,tt_,tt_,tt_,ff_,ff_,ff_,ff_,ff_] rfl rfl (by kernel_rfl) (by decide) (fun K hK => ?_)
       refine goes_ Try.func33 (by kernel_rfl) rfl #[.agg #[.int .i64 (p.w : Int), .int .i64 (p.h : Int), .slice Ap np cp], .agg #[.int .i64 (q'.w : Int), .int .i64 (q'.h : Int), .slice A2 m c2]] (by rfl) rfl rfl (by (try simp only [List.map_toArray, List.map_cons, List.map_nil]); rfl) ?_
       refine (HJ.out _).mono ?_
       rintro e w11 ⟨rfl, hb⟩
       refine ⟨_, rfl, ?_⟩
       have Z11 := Aside0.mk (blk_below ZD.out hb)
       have R11 := Aside0.mk (blk_below RD.out hb)
       have B11 := Aside0.mk (below_step BD.out hb)
       clear hb
       refine hK.out _ _ ?_
       clear hK K
       refine norm_ (a' := ?_) ?_ ?_
       rotate_left
       ·show Act.put _ (some 66) _ = _
        simp only [Act.put, List.setIfInBounds_toArray, List.set_cons_zero, List.set_cons_succ, i64_w, i32_w]
        rfl
       refine pure_ (i := 6) (N := some 60) (v := ?_) (a' := ?_) #[tt_,tt_,tt_,tt_,tt_,tt_,tt_,ff_,ff_,ff_,ff_] rfl rfl (by kernel_rfl) (fun _ _ _ h => h) (Or.inl ⟨by rfl, ?_⟩) ?_ ?_
       rotate_left
       ·intro w'
        go_simp
        with_reducible rfl
       rotate_left
       ·simp only [Act.put, List.setIfInBounds_toArray, List.set_cons_zero, List.set_cons_succ, i64_w, i32_w]
        rfl
       refine pure_ (i := 7) (N := some 67) (v := ?_) (a' := ?_) #[tt_,tt_,tt_,tt_,tt_,tt_,tt_,tt_,ff_,ff_,ff_] rfl rfl (by kernel_rfl) (fun _ _ _ h => h) (Or.inl ⟨by rfl, ?_⟩) ?_ ?_
       rotate_left
       ·intro w'
        go_simp
        with_reducible rfl
       rotate_left
       ·simp only [Act.put, List.setIfInBounds_toArray, List.set_cons_zero, List.set_cons_succ, i64_w, i32_w]
        rfl
       refine pure_ (i := 8) (N := some 68) (v := ?_) (a' := ?_) #[tt_,tt_,tt_,tt_,tt_,tt_,tt_,tt_,tt_,ff_,ff_] rfl rfl (by kernel_rfl) (fun _ _ _ h => h) (Or.inl ⟨by rfl, ?_⟩) ?_ ?_
       rotate_left
       ·intro w'
        go_simp
        with_reducible rfl
       rotate_left
       ·simp only [Act.put, List.setIfInBounds_toArray, List.set_cons_zero, List.set_cons_succ, i64_w, i32_w]
        rfl
       refine last_ (i := 9) (N := none) #[tt_,tt_,tt_,tt_,tt_,tt_,tt_,tt_,tt_,tt_,ff_] rfl rfl (by kernel_rfl) (by decide) (fun K hK => ?_)
       refine storeP_step (by rfl) rfl rfl g9 0 0 none 0 0 _ _ _ rfl rfl Z11.out ?_
       intro w12 hm_ hst_ hbl_
       have Z12 := Aside0.mk (hm_)
       have R12 := Aside0.mk ((hst_ gR NR9.out).trans R11.out)
       have B12 := Aside0.mk (B11.out.trans (hbl_ _ G9.out))
       clear hm_ hst_ hbl_
       refine hK.out _ _ ?_
       clear hK K
       refine pure_ (i := 10) (N := some 10) (v := ?_) (a' := ?_) #[tt_,tt_,tt_,tt_,tt_,tt_,tt_,tt_,tt_,tt_,tt_] rfl rfl (by kernel_rfl) (fun _ _ _ h => h) (Or.inl ⟨by rfl, ?_⟩) ?_ ?_
       rotate_left
       ·intro w'
        go_simp
        with_reducible rfl
       rotate_left
       ·simp only [Act.put, List.setIfInBounds_toArray, List.set_cons_zero, List.set_cons_succ, i64_w, i32_w]
        rfl
       refine done_ (by kernel_rfl) ?_
       try go_wp2
       go_roundw
       case measure => first | (simp [intOf]; done) | (simp [intOf]; omega)
       case rel => exact ⟨k + 1, 141, p, Ap, np, cp, by omega, ⟨_, rfl, by have := HZZ.out; omega⟩, rfl, ⟨HSV.out, HZ0.out⟩, R12, B12, ⟨fun h9 => absurd h9 (by decide)⟩⟩
     ·obtain rfl : k = j := by omega
      obtain rfl : z = -1 := by omega
      have HK0 : Aside0 (∀ k', k' < k + 1 → (rsts ps k').1 = 0) := ⟨fun k' hk' => by
       by_cases h9 : k' < k
       ·exact HK.out.2 k' h9
       ·obtain rfl : k' = k := by omega
        rw [HK.out.1]⟩
      have p0 := (blk_cell ZI 0).trans rfl
      have p1 := (blk_cell ZI 1).trans rfl
      have p2 := (blk_cell ZI 2).trans rfl
      have VI := Aside0.mk VI
      clear ZI hpo HP hz
      go_wp2_with (((with_reducible refine gate_store (p := 2) rfl ?_); refine storeP_event rfl rfl rfl gR (p.w : Int) (p.h : Int) Ap np cp _ _ _ rfl rfl RI.out ?_; intro w13 hm_ hst_ hbl_; have R13 := Aside0.mk (hm_); have B13 := Aside0.mk (BI.out.trans (hbl_ _ GR.out)); have V13 := Aside0.mk (Kd.R_mono (Kd.R_move (Kd.R_types VI.out RI.out (by decide)) (fun k hk => hst_ k hk.2)) (fun _ _ => trivial)); clear hm_ hst_ hbl_))
      refine bodyPost_ret (results_ct rfl _ _ gR 25 #[.int .i64 (p.w : Int), .int .i64 (p.h : Int), .slice Ap np cp] (0, 0) _ rfl R13.out Try.underlying25 rfl (by kernel_rfl)) rfl ?_
      rw [HJ1.out, HK.out.1]
      exact ⟨fun _ => ⟨_, rfl, V13.out⟩, fun ⟨k', h1, h2⟩ => absurd (HK0.out k' h1) h2, B13.out⟩
    ·have hc1 : c = 141 := by
      have h9 := rsts_err ps k
      rw [HK.out.1] at h9
      rcases h9 with h9 | h9
      ·exact absurd h9 hc
      ·exact h9
     subst hc1
     have t6 : (((141 : Nat) : Int) == 0) = false := rfl
     have t7 : (((141 : Nat) : Int) != 0) = true := rfl
     have HKX : Aside0 (∃ k', k' < j + 1 ∧ (rsts ps k').1 ≠ 0) := ⟨⟨k, by omega, by rw [HK.out.1]; exact hc⟩⟩
     clear hc HP hz
     by_cases hz0 : 0 ≤ z
     ·have t5 : decide ((0 : Int) ≤ z) = true := decide_eq_true hz0
      clear hz0
      go_wp2_with (((with_reducible refine gate_store (p := 2) rfl ?_); refine storeP_event rfl rfl rfl gR 0 0 none 0 0 _ _ _ rfl rfl RI.out ?_; intro wz hm_ hst_ hbl_; have Rz := Aside0.mk (hm_); have Bz := Aside0.mk (BI.out.trans (hbl_ _ GR.out)); clear hm_ hst_ hbl_))
      refine bodyPost_ret (results_ct rfl _ _ gR 25 #[.int .i64 0, .int .i64 0, .slice none 0 0] (0, 0) _ rfl Rz.out Try.underlying25 rfl (by kernel_rfl)) rfl ?_
      exact ⟨fun h9 => (by obtain ⟨k', h1, h2⟩ := HKX.out; exact absurd (h9 k' h1) h2), fun _ => rfl, Bz.out⟩
     ·have t5 : decide ((0 : Int) ≤ z) = false := decide_eq_false hz0
      clear hz0
      go_wp2_with (((with_reducible refine gate_store (p := 2) rfl ?_); refine storeP_event rfl rfl rfl gR 0 0 none 0 0 _ _ _ rfl rfl RI.out ?_; intro wz hm_ hst_ hbl_; have Rz := Aside0.mk (hm_); have Bz := Aside0.mk (BI.out.trans (hbl_ _ GR.out)); clear hm_ hst_ hbl_))
      refine bodyPost_ret (results_ct rfl _ _ gR 25 #[.int .i64 0, .int .i64 0, .slice none 0 0] (0, 0) _ rfl Rz.out Try.underlying25 rfl (by kernel_rfl)) rfl ?_
      exact ⟨fun h9 => (by obtain ⟨k', h1, h2⟩ := HKX.out; exact absurd (h9 k' h1) h2), fun _ => rfl, Bz.out⟩
end Go.Proofs.Ytodlgdpkadkjjaa.A
end
section
set_option linter.unusedVariables false
set_option linter.unusedSimpArgs false
namespace Go.Proofs.Ytodlgdpkadkjjaa.A
open Go.RowKit Go.Shelf Go.Proofs.YtodlgdpkadkjjaaW.PrintWords Go.Proofs.YtodlgdpkadkjjaaW.PrintLast Go.Proofs.YtodlgdpkadkjjaaW.PrintMore Go.Proofs.Ytodlgdpkadkjjaa.PPyramidLevels

/-- what Build tells, as planes -/
def bldP (W H : Nat) (xs : List Nat) (lv : Nat) : List Pl := (List.range (lv + 1)).map (fun i => ⟨(lvl W H xs i).w, (lvl W H xs i).h, if i < lv then lvlF W H xs i else (lvl W H xs i).s⟩)
theorem bldP_get {W H : Nat} {xs : List Nat} {lv i : Nat} (h : i ≤ lv) : (bldP W H xs lv).getD i plz = ⟨(lvl W H xs i).w, (lvl W H xs i).h, if i < lv then lvlF W H xs i else (lvl W H xs i).s⟩ := by
 rw [List.getD_eq_getElem?_getD, bldP, List.getElem?_map, List.getElem?_range (by omega)]; rfl
theorem bldP_length (W H : Nat) (xs : List Nat) (lv : Nat) : (bldP W H xs lv).length = lv + 1 := by simp [bldP]
theorem bldS_length (W H : Nat) (xs : List Nat) (lv : Nat) : (bldS W H xs lv).length = lv + 1 := by simp [bldS, finsB]
theorem bldS_get {W H : Nat} {xs : List Nat} {lv i : Nat} (h : i ≤ lv) : (bldS W H xs lv).getD i [] = if i < lv then lvlF W H xs i else (lvl W H xs i).s := by
 rw [List.getD_eq_getElem?_getD, bldS]
 by_cases hi : i < lv
 ·rw [List.getElem?_append_left (by simp [finsB, hi]), finsB, List.getElem?_map, List.getElem?_range hi, if_pos hi]; rfl
 ·obtain rfl : i = lv := by omega
  rw [List.getElem?_append_right (by simp [finsB]), if_neg (by omega)]
  simp [finsB]
theorem plsL_bld {W H : Nat} {xs : List Nat} {lv : Nat} {es : List (Nat × Nat × Hd)} (hd : dim2 es = dimsB W H xs (lv + 1)) : plsL es (bldS W H xs lv) = (bldP W H xs lv).map Pl.s25 := by
 have hl : es.length = lv + 1 := by have h1 := congrArg List.length hd; simpa [dim2, dimsB] using h1
 unfold plsL bldP
 rw [hl, List.map_map]
 refine List.map_congr_left (fun i hi => ?_)
 have hi' : i < lv + 1 := List.mem_range.mp hi
 have h2 : (dim2 es)[i]? = (dimsB W H xs (lv + 1))[i]? := by rw [hd]
 unfold dim2 dimsB at h2
 rw [List.getElem?_map, List.getElem?_map, List.getElem?_range hi', List.getElem?_eq_getElem (by omega), Option.map_some, Option.map_some, Option.some.injEq, Prod.mk.injEq] at h2
 rw [List.getElem?_eq_getElem (show i < es.length by omega), Option.getD_some, h2.1, h2.2, bldS_get (by omega)]
 rfl
theorem bldP_ok {W H : Nat} {xs : List Nat} {lv i : Nat} (hp : (Pl.mk W H xs).ok) (h : i ≤ lv) : (Pl.mk ((bldP W H xs lv).getD i plz).w ((bldP W H xs lv).getD i plz).h ((bldP W H xs lv).getD i plz).s).ok := by
 rw [bldP_get h]
 by_cases hi : i < lv
 ·simp only [if_pos hi]; exact fin_ok (lvl_ok hp i)
 ·simp only [if_neg hi]; exact lvl_ok hp i
end Go.Proofs.Ytodlgdpkadkjjaa.A
end
section
set_option linter.unusedVariables false
set_option linter.unusedSimpArgs false
namespace Go.Proofs.Ytodlgdpkadkjjaa.A
open Go.RowKit Go.Shelf Go.Proofs.YtodlgdpkadkjjaaW.PrintWords Go.Proofs.YtodlgdpkadkjjaaW.PrintLast Go.Proofs.YtodlgdpkadkjjaaW.PrintMore Go.Proofs.Ytodlgdpkadkjjaa.PPyramidLevels
set_option maxHeartbeats 4000000 in
set_option maxRecDepth 100000 in
theorem rCopy_calls (W H : Nat) (p : List Nat) (A : Option Addr) (n cap : Nat) (w : World) (hp : (Pl.mk W H p).ok) (hx : PL w A n cap p) :
    Calls Try.prog 67 #[.agg #[.int .i64 (W : Int), .int .i64 (H : Int), .slice A n cap]] w fun e w' => ∃ v, e = .returned (.agg #[.int .i64 (W : Int), .int .i64 (H : Int), v]) ∧ (nat .u32).R 50 w' w.heap.size (fun _ => True) v p ∧ Below w.heap.size w w' := by
 have hu25 := Try.underlying25
 obtain ⟨p1, p2, p3, p4, p5, p6, p7⟩ := hp
 have p1 : 0 < W := p1
 have p2 : 0 < H := p2
 have p5 : W * H ≤ 65536 := p5
 have p6 : p.length = W * H := p6
 have hnn : n = W * H := hx.2.2.symm.trans p6
 have HNW : Aside0 (W * H = n) := ⟨hnn.symm⟩
 have HNB : Aside0 (0 < n) := ⟨by rw [hnn]; exact Nat.mul_pos p1 p2⟩
 have HWH := Aside0.mk p5
 have HPL : Aside0 (p.length = n) := ⟨hx.2.2⟩
 have Lx_0 := Aside0.mk hx
 clear p1 p2 p3 p4 p5 p6 p7 hnn hx
 have B_0 : Aside0 (Below w.heap.size w w) := ⟨Below.refl _ _⟩
 go_enter Try.func67, Try.ntmps67
 go_wp2_with (first | ((with_reducible refine gate_store (p := 3) rfl ?_); refine storeP_event rfl rfl rfl g3 (W : Int) (H : Int) (some ⟨go, 0, none⟩) n co _ _ _ rfl rfl ZF.out ?_; intro w4 hm_ hst_ hbl_; have BL3_2 := Aside0.mk (BL3_1.out.trans (hbl_ _ GGF.out)); have ZF_ := Aside0.mk hm_; have B_4 := Aside0.mk (below_step B_3.out BL3_2.out); have DX_4 := Aside0.mk (blk_below DX_3.out BL3_2.out); have DR_4 := Aside0.mk (blk_below DR_3.out BL3_2.out); have Lx_4 := Aside0.mk (Lx_3.out.below BL3_2.out); have U_4 := Aside0.mk (Kd.R_below U_3.out BL3_2.out); clear DX_3 DR_3 Lx_3 U_3; have DF_4 := Aside0.mk (ZF_.out); clear ZF_ ZF BL3_1 BL3_2; clear hm_ hst_ hbl_; have o0 := (blk_cell DF_4.out 0).trans rfl; have o1 := (blk_cell DF_4.out 1).trans rfl; have o2 := (blk_cell DF_4.out 2).trans rfl; have p0 := (blk_cell DX_4.out 0).trans rfl; have p1 := (blk_cell DX_4.out 1).trans rfl; have p2 := (blk_cell DX_4.out 2).trans rfl) | ((with_reducible refine gate_dst (N := 3) rfl ?_); refine box_event ?hg (N := 3) ?hd (cs := #[.int .i64 0, .int .i64 0, .slice none 0 0]) (t := 25) ?hr ?_; (case hd => rfl); (case hg => rfl); (case hr => first | (go_simp; done) | (go_simp; rfl)); intro g3 hg_ w3_1 hm_ hb_; have BL3_1 := Aside0.mk (hb_); have ZF := Aside0.mk (hm_); have NRF := Aside0.mk (show g3 ≠ gR by rw [hg_]; have := blk_lt DR_3.out; omega); have GGF := Aside0.mk (show w3.heap.size ≤ g3 by rw [hg_]; exact Nat.le_refl _); clear hm_ hb_ hg_) | (go_at_call 48; have hkey := B_2; clear hkey; refine (rBlank_calls _ HWH.out).mono ?_; rintro e w3 ⟨v9, rfl, hR, hb⟩; obtain ⟨go, co, hv9, hgo, hlt9, hty9⟩ := Kd.R_form hR (by rw [List.length_replicate, HNW.out]; exact HNB.out); rw [List.length_replicate, HNW.out] at hv9; rw [HNW.out] at hR; subst hv9; have GO := Aside0.mk (show w2.heap.size ≤ go from hgo); have U_3 := Aside0.mk (Kd.R_lower hR B_2.out.size); have B_3 := Aside0.mk (below_step B_2.out hb); have DX_3 := Aside0.mk (blk_below DX_2.out hb); have DR_3 := Aside0.mk (blk_below DR_2.out hb); have Lx_3 := Aside0.mk (Lx_2.out.below hb); clear DX_2 DR_2 Lx_2; clear hR hgo hlt9 hty9 p0 p1 p2; clear hb) | ((with_reducible refine gate_dst (N := 2) rfl ?_); refine box_event ?hg (N := 2) ?hd (cs := #[.int .i64 0, .int .i64 0, .slice none 0 0]) (t := 25) ?hr ?_; (case hd => rfl); (case hg => rfl); (case hr => first | (go_simp; done) | (go_simp; rfl)); intro gR hg_ w2 hm_ hb_; have GR := Aside0.mk (show w.heap.size ≤ gR by rw [hg_]; exact B_1.out.size); have NXR := Aside0.mk (show gX ≠ gR by rw [hg_]; have := blk_lt DX_1.out; omega); have B_2 := Aside0.mk (below_step B_1.out hb_); have DX_2 := Aside0.mk (blk_below DX_1.out hb_); have Lx_2 := Aside0.mk (Lx_1.out.below hb_); clear DX_1 Lx_1; have DR_2 := Aside0.mk (hm_); clear hm_ hb_ hg_; have p0 := (blk_cell DX_2.out 0).trans rfl; have p1 := (blk_cell DX_2.out 1).trans rfl; have p2 := (blk_cell DX_2.out 2).trans rfl) | ((with_reducible refine gate_dst (N := 1) rfl ?_); refine box_event ?hg (N := 1) ?hd (cs := #[.int .i64 (W : Int), .int .i64 (H : Int), .slice A n cap]) (t := 25) ?hr ?_; (case hd => rfl); (case hg => rfl); (case hr => first | (go_simp; done) | (go_simp; rfl)); intro gX hg_ w1 hm_ hb_; have B_1 := Aside0.mk (below_step B_0.out hb_); have Lx_1 := Aside0.mk (Lx_0.out.below hb_); clear Lx_0; have DX_1 := Aside0.mk (hm_); clear hm_ hb_ hg_) | ((with_reducible refine gate_builtin (b := .copy) (xs := #[.tmp 10, .tmp 12]) rfl ?_); refine Kd.R_copy (enc := fun x : Nat => Value.int .u32 x) (h1 := fun _ => rfl) 0 (w0 := w) w.heap.size rfl (.tmp 10) (.tmp 12) 23 23 50 rfl Try.underlying23 (by kernel_rfl) (.slice (some ⟨go, 0, none⟩) n co) (List.replicate n 0) p A n cap (fun _ => True) rfl rfl U_4.out Lx_4.out.1 B_4.out B_4.out.size ?_; intro w50 hR1 hB1 hg1; have V50 := Aside0.mk (hR1); have B50 := Aside0.mk (hB1); have F50 := Aside0.mk (blk_grown DF_4.out hg1 (Kd.R_ne U_4.out DF_4.out (by decide))); have R50 := Aside0.mk (blk_grown DR_4.out hg1 (Kd.R_ne U_4.out DR_4.out (by decide))); clear hR1 hB1 hg1 o0 o1 o2 p0 p1 p2; have o0 := (blk_cell F50.out 0).trans rfl; have o1 := (blk_cell F50.out 1).trans rfl; have o2 := (blk_cell F50.out 2).trans rfl) | ((with_reducible refine gate_store (p := 2) rfl ?_); refine storeP_event rfl rfl rfl gR (W : Int) (H : Int) (some ⟨go, 0, none⟩) n co _ _ _ rfl rfl R50.out ?_; intro w51 hm_ hst_ hbl_; have R51 := Aside0.mk (hm_); have B51 := Aside0.mk (B50.out.trans (hbl_ _ GR.out)); have V51 := Aside0.mk (Kd.R_mono (Kd.R_move (Kd.R_types V50.out R50.out (by decide)) (fun k hk => hst_ k hk.2)) (ok' := fun _ => True) (fun _ _ => trivial)); clear hm_ hst_ hbl_))
 refine bodyPost_ret (results_cell_row rfl _ _ gR 25 #[.int .i64 (W : Int), .int .i64 (H : Int), .slice (some ⟨go, 0, none⟩) n co] (0, 0) _ rfl R51.out Try.underlying25 rfl (by kernel_rfl)) rfl ?_
 refine ⟨_, rfl, ?_, B51.out⟩
 have e : p.take (min n (List.replicate n 0).length) ++ (List.replicate n 0).drop (min n (List.replicate n 0).length) = p := by
  rw [List.length_replicate, Nat.min_self, List.take_of_length_le (Nat.le_of_eq HPL.out), List.drop_replicate, Nat.sub_self, List.replicate_zero, List.append_nil]
 have h : (nat .u32).R 50 w51 w.heap.size (fun _ => True) (.slice (some ⟨go, 0, none⟩) n co) (p.take (min n (List.replicate n 0).length) ++ (List.replicate n 0).drop (min n (List.replicate n 0).length)) := V51.out
 rw [e] at h
 exact h
/-- the planes of Build -/
def bldQ (W H : Nat) (xs : List Nat) (n : Nat) : List S25 := (List.range n).map (fun i => Pl.s25 ⟨(lvl W H xs i).w, (lvl W H xs i).h, lvlF W H xs i⟩)
theorem bldQ_succ (W H : Nat) (xs : List Nat) (n : Nat) : bldQ W H xs (n + 1) = bldQ W H xs n ++ [Pl.s25 ⟨(lvl W H xs n).w, (lvl W H xs n).h, lvlF W H xs n⟩] := by unfold bldQ; rw [List.range_succ, List.map_append]; rfl
theorem bldQ_length (W H : Nat) (xs : List Nat) (n : Nat) : (bldQ W H xs n).length = n := by simp [bldQ]
def bldR (W H : Nat) (xs : List Nat) (n : Nat) : List S25 := bldQ W H xs n ++ [Pl.s25 (lvl W H xs n)]
set_option maxHeartbeats 1000000 in
set_option maxRecDepth 100000 in
theorem rBuild_bad (x y : Int) (A : Option Addr) (n cap : Nat) (p : List Nat) (lv : Int) (w : World) (hx : PL w A n cap p) (hE : checkE x y n ≠ 0) :
    Calls Try.prog 35 #[.agg #[.int .i64 x, .int .i64 y, .slice A n cap], .int .i64 lv] w fun e w' => e = .returned (.tuple #[.slice none 0 0, .int .i64 ((checkE x y n : Nat) : Int)]) ∧ Below w.heap.size w w' := by
 have hu25 := Try.underlying25
 have HX := Aside0.mk hx
 have HNL : Aside0 (n < 9223372036854775808) := ⟨by have := hx.1.2.1; omega⟩
 obtain ⟨k, hk⟩ : ∃ k, checkE x y n = k := ⟨_, rfl⟩
 have HE := Aside0.mk hk
 rw [hk] at hE ⊢
 have t1 : ((k : Int) != 0) = true := by rw [bne_iff_ne]; omega
 clear hk hx hE
 go_enter Try.func35, Try.ntmps35
 go_wp2_with (first | ((with_reducible refine gate_dst (N := 2) rfl ?_); refine box_event ?hg (N := 2) ?hd (cs := #[.int .i64 x, .int .i64 y, .slice A n cap]) (t := 25) ?hr ?_; (case hd => rfl); (case hg => rfl); (case hr => first | (go_simp; done) | (go_simp; rfl)); intro gX hg_ w1 hm_ hb_; have P1 := Aside0.mk (hm_); have B1 := Aside0.mk (hb_); have X1 := Aside0.mk (HX.out.below hb_); have p0 := (blk_cell P1.out 0).trans rfl; have p1 := (blk_cell P1.out 1).trans rfl; have p2 := (blk_cell P1.out 2).trans rfl; clear hm_ hb_ hg_) | (go_at_call 44; refine (rCheck_calls x y A n cap _ HNL.out).mono ?_; rw [HE.out]; rintro e w2 ⟨rfl, hb⟩; have P2 := Aside0.mk (blk_below P1.out hb); have X2 := Aside0.mk (X1.out.below hb); have B2 := Aside0.mk (below_step B1.out hb); clear hb p0 p1 p2; have p0 := (blk_cell P2.out 0).trans rfl; have p1 := (blk_cell P2.out 1).trans rfl; have p2 := (blk_cell P2.out 2).trans rfl))
 go_ret2
 exact ⟨rfl, B2.out⟩
set_option maxHeartbeats 1000000 in
set_option maxRecDepth 100000 in
theorem rBuild_levels (x y : Int) (A : Option Addr) (n cap : Nat) (p : List Nat) (lv : Int) (w : World) (hx : PL w A n cap p) (hE : checkE x y n = 0) (hl : lv < 0 ∨ 12 < lv) :
    Calls Try.prog 35 #[.agg #[.int .i64 x, .int .i64 y, .slice A n cap], .int .i64 lv] w fun e w' => e = .returned (.tuple #[.slice none 0 0, .int .i64 140]) ∧ Below w.heap.size w w' := by
 have hu25 := Try.underlying25
 have HX := Aside0.mk hx
 have HNL : Aside0 (n < 9223372036854775808) := ⟨by have := hx.1.2.1; omega⟩
 have HE := Aside0.mk hE
 have main : ∀ b c : Bool, decide (lv < 0) = b → decide (12 < lv) = c → (b || c) = true → Calls Try.prog 35 #[.agg #[.int .i64 x, .int .i64 y, .slice A n cap], .int .i64 lv] w fun e w' => e = .returned (.tuple #[.slice none 0 0, .int .i64 140]) ∧ Below w.heap.size w w' := by
  intro b c t1 t2 hbc
  clear hx hE hl
  cases b <;> cases c <;> first | (exact absurd hbc (by decide)) | (
   clear hbc
   go_enter Try.func35, Try.ntmps35
   go_wp2_with (first | ((with_reducible refine gate_dst (N := 2) rfl ?_); refine box_event ?hg (N := 2) ?hd (cs := #[.int .i64 x, .int .i64 y, .slice A n cap]) (t := 25) ?hr ?_; (case hd => rfl); (case hg => rfl); (case hr => first | (go_simp; done) | (go_simp; rfl)); intro gX hg_ w1 hm_ hb_; have P1 := Aside0.mk (hm_); have B1 := Aside0.mk (hb_); have X1 := Aside0.mk (HX.out.below hb_); have p0 := (blk_cell P1.out 0).trans rfl; have p1 := (blk_cell P1.out 1).trans rfl; have p2 := (blk_cell P1.out 2).trans rfl; clear hm_ hb_ hg_) | (go_at_call 44; refine (rCheck_calls x y A n cap _ HNL.out).mono ?_; rw [HE.out]; rintro e w2 ⟨rfl, hb⟩; have P2 := Aside0.mk (blk_below P1.out hb); have X2 := Aside0.mk (X1.out.below hb); have B2 := Aside0.mk (below_step B1.out hb); clear hb p0 p1 p2; have p0 := (blk_cell P2.out 0).trans rfl; have p1 := (blk_cell P2.out 1).trans rfl; have p2 := (blk_cell P2.out 2).trans rfl))
   go_ret2
   exact ⟨rfl, B2.out⟩)
 exact main _ _ rfl rfl (by rcases hl with hl | hl; · rw [decide_eq_true hl]; rfl
                            ·rw [decide_eq_true hl, Bool.or_true])
theorem own_lt0 {w : World} {B a b : Nat} {v : Value} {l : List S25} (h : k25.R 25 w B (fun k => a ≤ k ∧ k < b) v l) {k : Nat} (hk : v.ownBlock = some k) : a ≤ k ∧ k < b := h.1 k hk
set_option maxHeartbeats 8000000 in
set_option maxRecDepth 100000 in
theorem rBuild_ok (W H : Nat) (xs : List Nat) (A : Option Addr) (n cap lv : Nat) (w : World) (hp : (Pl.mk W H xs).ok) (h : PL w A n cap xs) (hlv : lv ≤ 12) :
    Calls Try.prog 35 #[.agg #[.int .i64 (W : Int), .int .i64 (H : Int), .slice A n cap], .int .i64 (lv : Int)] w fun e w' => ∃ v, e = .returned (.tuple #[v, .int .i64 0]) ∧ k25.R 25 w' w.heap.size (fun _ => True) v (bldR W H xs lv) ∧ Below w.heap.size w w' := by
 have hu25 := Try.underlying25
 have HP := Aside0.mk hp
 have HX := Aside0.mk h
 have HE : Aside0 (checkE (W : Int) (H : Int) n = 0) := ⟨by rw [← h.2.2]; exact hp.checkE⟩
 have HNL : Aside0 (n < 9223372036854775808) := ⟨by have := h.1.2.1; omega⟩
 have t1 : decide ((lv : Int) < 0) = false := decide_eq_false (by omega)
 have t2 : decide ((12 : Int) < (lv : Int)) = false := decide_eq_false (by omega)
 have t3 : decide (12 < lv) = false := decide_eq_false (by omega)
 clear hp h
 go_enter Try.func35, Try.ntmps35
 go_wp2_with (first | ((with_reducible refine gate_dst (N := 2) rfl ?_); refine box_event ?hg (N := 2) ?hd (cs := #[.int .i64 (W : Int), .int .i64 (H : Int), .slice A n cap]) (t := 25) ?hr ?_; (case hd => rfl); (case hg => rfl); (case hr => first | (go_simp; done) | (go_simp; rfl)); intro gX hg_ w1 hm_ hb_; have P1 := Aside0.mk (hm_); have B1 := Aside0.mk (hb_); have X1 := Aside0.mk (HX.out.below hb_); have p0 := (blk_cell P1.out 0).trans rfl; have p1 := (blk_cell P1.out 1).trans rfl; have p2 := (blk_cell P1.out 2).trans rfl; clear hm_ hb_ hg_) | (go_at_call 44; refine (rCheck_calls (W : Int) (H : Int) A n cap _ HNL.out).mono ?_; rw [HE.out]; rintro e w2 ⟨rfl, hb⟩; have P2 := Aside0.mk (blk_below P1.out hb); have X2 := Aside0.mk (X1.out.below hb); have B2 := Aside0.mk (below_step B1.out hb); clear hb p0 p1 p2; have p0 := (blk_cell P2.out 0).trans rfl; have p1 := (blk_cell P2.out 1).trans rfl; have p2 := (blk_cell P2.out 2).trans rfl) | (go_at_call 67; refine (rCopy_calls W H xs A n cap _ HP.out X2.out).mono ?_; rintro e w3 ⟨v3, rfl, hR, hb⟩; obtain ⟨A3, c3, hv3⟩ := Kd.R_slice hR; obtain ⟨n3, hn3⟩ : ∃ n3, xs.length = n3 := ⟨_, rfl⟩; rw [hn3] at hv3; subst hv3; have V3 := Aside0.mk (Kd.R_lower hR B2.out.size); have B3 := Aside0.mk (below_step B2.out hb); clear hR hn3 hb p0 p1 p2) | ((with_reducible refine gate_dst (N := 8) rfl ?_); refine box_event ?hg (N := 8) ?hd (cs := #[.int .i64 0, .int .i64 0, .slice none 0 0]) (t := 25) ?hr ?_; (case hd => rfl); (case hg => rfl); (case hr => first | (go_simp; done) | (go_simp; rfl)); intro gC hg_ w4 hm_ hb_; have Z4 := Aside0.mk (hm_); have V4 := Aside0.mk (Kd.R_below V3.out hb_); have B4 := Aside0.mk (below_step B3.out hb_); have GC := Aside0.mk (show w.heap.size ≤ gC by rw [hg_]; exact B3.out.size); clear hm_ hb_ hg_) | ((with_reducible refine gate_store (p := 8) rfl ?_); refine storeP_event rfl rfl rfl gC (W : Int) (H : Int) A3 n3 c3 _ _ _ rfl rfl Z4.out ?_; intro w5 hm_ hst_ hbl_; have Z5 := Aside0.mk (hm_); have B5 := Aside0.mk (B4.out.trans (hbl_ _ GC.out)); have V5 := Aside0.mk (Kd.R_mono (Kd.R_move (Kd.R_types V4.out Z4.out (by decide)) (fun k hk => hst_ k hk.2)) (ok' := fun _ => True) (fun _ _ => trivial)); clear hm_ hst_ hbl_))
 have GC5 : Aside0 (gC < w5.heap.size) := ⟨blk_lt Z5.out⟩
 have SW5 : Aside0 (w.heap.size ≤ w5.heap.size) := ⟨B5.out.size⟩
 have V5' : Aside0 ((nat .u32).R 50 w5 w.heap.size (fun _ => True) (.slice A3 n3 c3) (lvl W H xs 0).s) := ⟨V5.out⟩
 have HI0 : Aside0 (k25.R 25 w5 w5.heap.size (fun _ => True) (.slice none 0 0) (bldQ W H xs 0)) := ⟨Kd.R_nil _ _ _ _ _⟩
 obtain ⟨v0, hv0⟩ : ∃ v0, v0 = Value.slice none 0 0 := ⟨_, rfl⟩
 rw [← hv0] at HI0
 have hv0' := hv0.symm
 rw [hv0']
 clear hv0 hv0' V4 Z4 B4 V3 B3 X2 P2 B2 X1 P1 B1 V5
 go_loopw [7, 9] (fun ov iv wr => ∃ (i : Nat) (q : Pl) (l : List S25) (Ai : Option Addr) (ni ci : Nat), i ≤ lv ∧ iv = .int .i64 (i : Int) ∧ Aside0 (q = lvl W H xs i) ∧ Aside0 (l = bldQ W H xs i) ∧ Aside0 (k25.R 25 wr w5.heap.size (fun _ => True) ov l) ∧ Aside0 (wr.heap[gC]? = some (.cells #[.int .i64 (q.w : Int), .int .i64 (q.h : Int), .slice Ai ni ci] 25 (0, 0))) ∧ Aside0 ((nat .u32).R 50 wr w.heap.size (fun _ => True) (.slice Ai ni ci) q.s) ∧ Aside0 (Below w.heap.size w wr) ∧ Aside0 (w5.heap.size ≤ wr.heap.size)) (fun _ iv _ => lv - (intOf iv).toNat)
 case atStart => exact ⟨0, _, _, A3, n3, c3, Nat.zero_le _, rfl, ⟨rfl⟩, ⟨rfl⟩, HI0, Z5, V5', B5, ⟨Nat.le_refl _⟩⟩
 case round =>
  clear HI0 Z5 V5' B5
  obtain ⟨i, q, l, Ai, ni, ci, hi, rfl, HQE, HLE, RI, DC_100, VI, BI, SZ_100⟩ := hrel
  have HQO : Aside0 ((Pl.mk q.w q.h q.s).ok) := ⟨by have := lvl_ok HP.out i; rw [← HQE.out] at this; exact this⟩
  have HQL : Aside0 (PL wr Ai ni ci q.s) := ⟨by have h := Kd.R_reads' VI.out; exact ⟨by rw [h.1]; exact h.2.2, h.2.1, h.1.symm⟩⟩
  have HLL : Aside0 ((l.length + 1) * 40 ≤ 140737488355328) := ⟨by rw [HLE.out, bldQ_length]; omega⟩
  by_cases hlt : i < lv
  ·have c1 : decide ((i : Int) < (lv : Int)) = true := decide_eq_true (by omega)
   have HLT := Aside0.mk hlt
   have HLS : Aside0 (l ++ [Pl.s25 ⟨q.w, q.h, finS q.w q.h q.s⟩] = bldQ W H xs (i + 1)) := ⟨by rw [bldQ_succ, HLE.out, HQE.out]; rfl⟩
   have O_100 : Aside0 (k25.R 25 wr w5.heap.size (fun k => w5.heap.size ≤ k ∧ k < wr.heap.size) u7 l) := ⟨Kd.R_mono (Kd.R_bound RI.out) (fun k hk => ⟨hk.2.1, hk.2.2.1⟩)⟩
   have V_100 := VI
   have BW_100 := BI
   have B_100 := Aside0.mk (Below.refl wr.heap.size wr)
   clear RI VI BI
   go_wp2_with (first | ((with_reducible refine gate_builtin (b := .append) (xs := #[.tmp 37, .tmp 39]) rfl ?_); at_builtin; refine Kd.R_append k25 (w0 := _) w5.heap.size rfl (.tmp 37) (.tmp 39) 67 25 (.agg #[.int .i64 0, .int .i64 0, .slice none 0 0]) 40 rfl Try.underlying67 infoPl rfl (by decide) (by decide) u7 l (Pl.s25 ⟨q.w, q.h, finS q.w q.h q.s⟩) [.int .i64 (q.w : Int), .int .i64 (q.h : Int), .slice A5 n5 c5] (fun _ => True) (fun k => True ∧ some k ≠ u7.ownBlock) rfl rfl (k25_mkM _ w5.heap.size (fun k => True ∧ some k ≠ u7.ownBlock) (Pl.s25 ⟨q.w, q.h, finS q.w q.h q.s⟩) (R_ints (Kd.R_apartR VF_102.out O_102.out (by decide)))) (fun k hk => hk) (fun _ _ => trivial) (Kd.R_mono O_102.out (fun _ _ => trivial)) (Below.refl _ _) SZ_102.out HLL.out ?_; intro v11 w120 hR hB hg hat; rw [HLS.out] at hR; have O120 := Aside0.mk (Kd.R_bound hR); have B120 := Aside0.mk (show Below w.heap.size w w120 from BW_102.out.trans (hB.mono SW5.out)); have SZ120 := Aside0.mk (Nat.le_trans SZ_102.out hB.size); have V120 := Aside0.mk (Kd.R_over VC_102.out O_102.out (by decide) hg); have E120 := Aside0.mk (blk_grown DE_102.out hg (fun e => by have := own_lt0 O_102.out e.symm; have := GGE.out; have := SW1.out; omega)); have C120 := Aside0.mk (blk_grown DC_102.out hg (fun e => by have := own_lt0 O_102.out e.symm; have := GC5.out; omega)); clear f0 f1 f2; have e0_ := (blk_cell E120.out 0).trans rfl; have e1_ := (blk_cell E120.out 1).trans rfl; have e2_ := (blk_cell E120.out 2).trans rfl; clear hR hB hg hat) | ((with_reducible refine gate_store (p := 8) rfl ?_); refine storeP_event rfl rfl rfl gC ((hf q.w : Nat) : Int) ((hf q.h : Nat) : Int) A4 n4 c4 _ _ _ rfl rfl C120.out ?_; intro w121 hm_ hst_ hbl_; have C121 := Aside0.mk (hm_); have V121 := Aside0.mk (Kd.R_mono (Kd.R_move (Kd.R_types V120.out C120.out (by decide)) (fun k hk => hst_ k hk.2)) (ok' := fun _ => True) (fun _ _ => trivial)); have O121 := Aside0.mk (Kd.R_mono (Kd.R_move O120.out (fun k hk => hst_ k (by have := hk.2.1; have := GC5.out; omega))) (ok' := fun _ => True) (fun _ _ => trivial)); have B121 := Aside0.mk (B120.out.trans (hbl_ _ GC.out)); have SZ121 := Aside0.mk (Nat.le_trans SZ120.out (hbl_ 0 (Nat.zero_le _)).size); clear hm_ hst_ hbl_) | ((with_reducible refine gate_store (p := 11) rfl ?_); refine storeP_event rfl rfl rfl g11 (q.w : Int) (q.h : Int) A5 n5 c5 _ _ _ rfl rfl ZF.out ?_; intro w102 hm_ hst_ hbl_; have BL101_4 := Aside0.mk (BL101_3.out.trans (hbl_ _ GGF.out)); have ZF_ := Aside0.mk hm_; have ZE_ := Aside0.mk ((hst_ g10 NEEF.out).trans ZE_.out); have B_102 := Aside0.mk (below_step B_101.out BL101_4.out); have DC_102 := Aside0.mk (blk_below DC_101.out BL101_4.out); have O_102 := Aside0.mk (Kd.R_below O_101.out BL101_4.out); have V_102 := Aside0.mk (Kd.R_below V_101.out BL101_4.out); have BW_102 := Aside0.mk (below_step BW_101.out BL101_4.out); have SZ_102 := Aside0.mk (Nat.le_trans SZ_101.out (BL101_4.out).size); have VC_102 := Aside0.mk (Kd.R_below VC_101.out BL101_4.out); have VF_102 := Aside0.mk (Kd.R_below VF_101.out BL101_4.out); clear DC_101 O_101 V_101 BW_101 SZ_101 VC_101 VF_101; have DE_102 := Aside0.mk (ZE_.out); have DF_102 := Aside0.mk (ZF_.out); clear ZE_ ZE ZF_ ZF BL101_1 BL101_2 BL101_3 BL101_4; clear hm_ hst_ hbl_; have f0 := (blk_cell DF_102.out 0).trans rfl; have f1 := (blk_cell DF_102.out 1).trans rfl; have f2 := (blk_cell DF_102.out 2).trans rfl) | ((with_reducible refine gate_store (p := 10) rfl ?_); refine storeP_event rfl rfl rfl g10 ((hf q.w : Nat) : Int) ((hf q.h : Nat) : Int) A4 n4 c4 _ _ _ rfl rfl ZE.out ?_; intro w101_3 hm_ hst_ hbl_; have BL101_3 := Aside0.mk (BL101_2.out.trans (hbl_ _ GGE.out)); have ZE_ := Aside0.mk hm_; have ZF := Aside0.mk ((hst_ g11 NEEF.out.symm).trans ZF.out); clear hm_ hst_ hbl_) | ((with_reducible refine gate_dst (N := 11) rfl ?_); refine box_event ?hg (N := 11) ?hd (cs := #[.int .i64 0, .int .i64 0, .slice none 0 0]) (t := 25) ?hr ?_; (case hd => rfl); (case hg => rfl); (case hr => first | (go_simp; done) | (go_simp; rfl)); intro g11 hg_ w101_2 hm_ hb_; have BL101_2 := Aside0.mk (BL101_1.out.trans (hb_.mono BL101_1.out.size)); have ZF := Aside0.mk (hm_); have GGF := Aside0.mk (show w101.heap.size ≤ g11 by rw [hg_]; exact BL101_1.out.size); have NEEF := Aside0.mk (show g10 ≠ g11 by rw [hg_]; have := blk_lt ZE.out; omega); have ZE := Aside0.mk (blk_below ZE.out hb_); clear hm_ hb_ hg_) | ((with_reducible refine gate_dst (N := 10) rfl ?_); refine box_event ?hg (N := 10) ?hd (cs := #[.int .i64 0, .int .i64 0, .slice none 0 0]) (t := 25) ?hr ?_; (case hd => rfl); (case hg => rfl); (case hr => first | (go_simp; done) | (go_simp; rfl)); intro g10 hg_ w101_1 hm_ hb_; have BL101_1 := Aside0.mk (hb_); have ZE := Aside0.mk (hm_); have GGE := Aside0.mk (show w101.heap.size ≤ g10 by rw [hg_]; exact Nat.le_refl _); clear hm_ hb_ hg_) | (go_at_call 31; refine (rSplit_ok q.w q.h q.s Ai ni ci _ HQO.out HQL.out).mono ?_; rintro e w101 ⟨v4, u4, rfl, hR, hU, hb⟩; obtain ⟨A4, c4, hv4⟩ := Kd.R_slice hR; obtain ⟨n4, hn4⟩ : ∃ n4, (redS q.w q.h q.s).length = n4 := ⟨_, rfl⟩; rw [hn4] at hv4; subst hv4; obtain ⟨A5, c5, hv5⟩ := Kd.R_slice hU; obtain ⟨n5, hn5⟩ : ∃ n5, (finS q.w q.h q.s).length = n5 := ⟨_, rfl⟩; rw [hn5] at hv5; subst hv5; have VC_101 := Aside0.mk (Kd.R_lower hR BW_100.out.size); have VF_101 := Aside0.mk (Kd.R_lower hU SZ_100.out); have SW1 := Aside0.mk (show wr.heap.size ≤ w101.heap.size from hb.size); have B_101 := Aside0.mk (below_step B_100.out hb); have DC_101 := Aside0.mk (blk_below DC_100.out hb); have O_101 := Aside0.mk (Kd.R_below O_100.out hb); have V_101 := Aside0.mk (Kd.R_below V_100.out hb); have BW_101 := Aside0.mk (below_step BW_100.out hb); have SZ_101 := Aside0.mk (Nat.le_trans SZ_100.out (hb).size); clear DC_100 O_100 V_100 BW_100 SZ_100; clear hR hU hn4 hn5; clear hb) | ((with_reducible refine gate_dst (N := 32) rfl ?_); refine loadP_g rfl ?hw gC _ _ _ rfl DC_100.out ?_; (case hw => rfl)))
   go_roundw
   case measure => simp [intOf]; have := HLT.out; omega
   case rel => exact ⟨i + 1, ⟨hf q.w, hf q.h, redS q.w q.h q.s⟩, _, A4, n4, c4, HLT.out, by go_num, ⟨by rw [HQE.out]; rfl⟩, ⟨rfl⟩, O121, C121, V121, B121, SZ121⟩
  ·obtain rfl : lv = i := by omega
   have c1 : decide ((lv : Int) < (lv : Int)) = false := decide_eq_false (by omega)
   have o0 := (blk_cell DC_100.out 0).trans rfl
   have o1 := (blk_cell DC_100.out 1).trans rfl
   have o2 := (blk_cell DC_100.out 2).trans rfl
   go_wp2_with (first | ((with_reducible refine gate_builtin (b := .append) (xs := #[.tmp 42, .tmp 44]) rfl ?_); at_builtin; refine Kd.R_append k25 (w0 := _) w.heap.size rfl (.tmp 42) (.tmp 44) 67 25 (.agg #[.int .i64 0, .int .i64 0, .slice none 0 0]) 40 rfl Try.underlying67 infoPl rfl (by decide) (by decide) u7 l (Pl.s25 q) [.int .i64 (q.w : Int), .int .i64 (q.h : Int), .slice Ai ni ci] (fun _ => True) (fun k => True ∧ some k ≠ u7.ownBlock) rfl rfl (k25_mkM _ w.heap.size (fun k => True ∧ some k ≠ u7.ownBlock) (Pl.s25 q) (R_ints (Kd.R_apartR VI.out (Kd.R_lower RI.out SW5.out) (by decide)))) (fun k hk => hk) (fun _ _ => trivial) (Kd.R_mono (Kd.R_lower RI.out SW5.out) (fun _ _ => trivial)) BI.out BI.out.size HLL.out ?_; intro v11 w120 hR hB hg hat; have O120 := Aside0.mk (hR); have B120 := Aside0.mk (hB); clear hR hB hg hat))
   go_ret2
   exact ⟨_, rfl, by unfold bldR; rw [← HLE.out, ← HQE.out]; exact O120.out, B120.out⟩
end Go.Proofs.Ytodlgdpkadkjjaa.A
end
section
set_option linter.unusedVariables false
set_option linter.unusedSimpArgs false
namespace Go.Proofs.Ytodlgdpkadkjjaa.A
open Go.RowKit Go.Shelf Go.Proofs.YtodlgdpkadkjjaaW.PrintWords Go.Proofs.YtodlgdpkadkjjaaW.PrintLast Go.Proofs.YtodlgdpkadkjjaaW.PrintMore Go.Proofs.Ytodlgdpkadkjjaa.PPyramidLevels
theorem rJoin_nf (W H U T : Nat) (A D : Option Addr) (n cap m dcap : Nat) (p q : List Nat) (w : World) (hx : PL w A n cap p) (hy : PL w D m dcap q) (hp : (Pl.mk W H p).ok) (hq : (Pl.mk U T q).ok) (hf_ : ¬ (hf U = W ∧ hf T = H)) :
    Calls Try.prog 32 #[.agg #[.int .i64 (W : Int), .int .i64 (H : Int), .slice A n cap], .agg #[.int .i64 (U : Int), .int .i64 (T : Int), .slice D m dcap]] w fun e w' => e = .returned (.tuple #[.agg #[.int .i64 0, .int .i64 0, .slice none 0 0], .int .i64 141]) ∧ Below w.heap.size w w' := by
 have e1 : checkE (W : Int) (H : Int) n = 0 := by rw [← hx.2.2]; exact hp.checkE
 have e2 : checkE (U : Int) (T : Int) m = 0 := by rw [← hy.2.2]; exact hq.checkE
 refine rJoin_form _ _ _ _ A D n cap m dcap p q w hx hy hp.2.2.2.2.2.2 e1 e2 ?_
 unfold expO
 rw [hx.2.2, if_pos e1, if_neg (by rw [Int.toNat_natCast, Int.toNat_natCast, Int.toNat_natCast, Int.toNat_natCast]; exact fun h => hf_ h.2)]
set_option maxHeartbeats 1000000 in
set_option maxRecDepth 100000 in
theorem rRestore_many (A : Option Addr) (n cap : Nat) (w : World) (hn : n = 0 ∨ 13 < n) :
    Calls Try.prog 36 #[.slice A n cap] w fun e w' => e = .returned (.tuple #[.agg #[.int .i64 0, .int .i64 0, .slice none 0 0], .int .i64 140]) ∧ Below w.heap.size w w' := by
 have hu25 := Try.underlying25
 by_cases h0 : n = 0
 ·subst h0
  clear hn
  go_enter Try.func36, Try.ntmps36
  go_wp2_with (first | ((with_reducible refine gate_dst (N := 2) rfl ?_); refine box_event ?hg (N := 2) ?hd (cs := #[.int .i64 0, .int .i64 0, .slice none 0 0]) (t := 25) ?hr ?_; (case hd => rfl); (case hg => rfl); (case hr => first | (go_simp; done) | (go_simp; rfl)); intro gR hg_ w1 hm_ hb_; have R1 := Aside0.mk (hm_); have B1 := Aside0.mk (hb_); have GR := Aside0.mk (show w.heap.size ≤ gR by rw [hg_]; exact Nat.le_refl _); clear hm_ hb_ hg_) | ((with_reducible refine gate_store (p := 2) rfl ?_); refine storeP_event rfl rfl rfl gR 0 0 none 0 0 _ _ _ rfl rfl R1.out ?_; intro wz hm_ hst_ hbl_; have Rz := Aside0.mk (hm_); have Bz := Aside0.mk (B1.out.trans (hbl_ _ GR.out)); clear hm_ hst_ hbl_))
  refine bodyPost_ret (results_ct rfl _ _ gR 25 #[.int .i64 0, .int .i64 0, .slice none 0 0] (0, 0) _ rfl Rz.out Try.underlying25 rfl (by kernel_rfl)) rfl ?_
  exact ⟨rfl, Bz.out⟩
 ·have t1 : ((n : Int) == 0) = false := by rw [beq_eq_false_iff_ne]; omega
  have t2 : decide ((13 : Int) < (n : Int)) = true := decide_eq_true (by omega)
  have t3 : decide (13 < n) = true := decide_eq_true (by omega)
  have t4 : (n == 0) = false := by rw [beq_eq_false_iff_ne]; omega
  clear hn h0
  go_enter Try.func36, Try.ntmps36
  go_wp2_with (first | ((with_reducible refine gate_dst (N := 2) rfl ?_); refine box_event ?hg (N := 2) ?hd (cs := #[.int .i64 0, .int .i64 0, .slice none 0 0]) (t := 25) ?hr ?_; (case hd => rfl); (case hg => rfl); (case hr => first | (go_simp; done) | (go_simp; rfl)); intro gR hg_ w1 hm_ hb_; have R1 := Aside0.mk (hm_); have B1 := Aside0.mk (hb_); have GR := Aside0.mk (show w.heap.size ≤ gR by rw [hg_]; exact Nat.le_refl _); clear hm_ hb_ hg_) | ((with_reducible refine gate_store (p := 2) rfl ?_); refine storeP_event rfl rfl rfl gR 0 0 none 0 0 _ _ _ rfl rfl R1.out ?_; intro wz hm_ hst_ hbl_; have Rz := Aside0.mk (hm_); have Bz := Aside0.mk (B1.out.trans (hbl_ _ GR.out)); clear hm_ hst_ hbl_))
  refine bodyPost_ret (results_ct rfl _ _ gR 25 #[.int .i64 0, .int .i64 0, .slice none 0 0] (0, 0) _ rfl Rz.out Try.underlying25 rfl (by kernel_rfl)) rfl ?_
  exact ⟨rfl, Bz.out⟩
set_option maxHeartbeats 4000000 in
set_option maxRecDepth 100000 in
theorem rRestore_bad (l : List S25) (A : Option Addr) (n cap : Nat) (w : World) (hC : Kd.C k25 w A n l) (hn : 1 ≤ n ∧ n ≤ 13) (b : Nat) (hb : b < n) (hpre : ∀ i, i < b → chk l i = 0) (hbad : chk l b ≠ 0) :
    Calls Try.prog 36 #[.slice A n cap] w fun e w' => e = .returned (.tuple #[.agg #[.int .i64 0, .int .i64 0, .slice none 0 0], .int .i64 ((chk l b : Nat) : Int)]) ∧ Below w.heap.size w w' := by
 have hu25 := Try.underlying25
 have HC := Aside0.mk hC
 have HPR := Aside0.mk hpre
 have t1 : ((n : Int) == 0) = false := by rw [beq_eq_false_iff_ne]; omega
 have t2 : decide ((13 : Int) < (n : Int)) = false := decide_eq_false (by omega)
 have t3 : decide (13 < n) = false := decide_eq_false (by omega)
 have t4 : (n == 0) = false := by rw [beq_eq_false_iff_ne]; omega
 obtain ⟨c, hc⟩ : ∃ c, chk l b = c := ⟨_, rfl⟩
 rw [hc] at hbad ⊢
 have HBC := Aside0.mk hc
 have t5 : ((c : Int) != 0) = true := by rw [bne_iff_ne]; omega
 clear hC hpre hbad hc
 go_enter Try.func36, Try.ntmps36
 go_wp2_with (first | ((with_reducible refine gate_dst (N := 2) rfl ?_); refine box_event ?hg (N := 2) ?hd (cs := #[.int .i64 0, .int .i64 0, .slice none 0 0]) (t := 25) ?hr ?_; (case hd => rfl); (case hg => rfl); (case hr => first | (go_simp; done) | (go_simp; rfl)); intro gR hg_ w1 hm_ hb_; have R1 := Aside0.mk (hm_); have B1 := Aside0.mk (hb_); have GR := Aside0.mk (show w.heap.size ≤ gR by rw [hg_]; exact Nat.le_refl _); clear hm_ hb_ hg_))
 go_loopw [5] (fun iv wr => ∃ (i : Nat), i ≤ b ∧ iv = .int .i64 (i : Int) ∧ Aside0 (wr.heap[gR]? = some (.cells #[.int .i64 0, .int .i64 0, .slice none 0 0] 25 (0, 0))) ∧ Aside0 (Below w.heap.size w wr)) (fun iv _ => b - (intOf iv).toNat)
 case atStart => exact ⟨0, Nat.zero_le _, rfl, R1, B1⟩
 case round =>
  clear R1 B1
  obtain ⟨i, hi, rfl, RI, BI⟩ := hrel
  have hlt : i < n := by omega
  have c1 : decide ((i : Int) < (n : Int)) = true := decide_eq_true (by omega)
  have i1 : ((i : Int) < (n : Int)) = True := eq_true (by omega)
  obtain ⟨ad, aq, A2, c2, rfl, haq, y0, y1, y2, hc2, hC2⟩ := cells_T25 (Kd.C_below HC.out BI.out) i hlt
  obtain ⟨x, hx⟩ : ∃ x, (rd_T25 l (i : Int)).f0 = x := ⟨_, rfl⟩
  obtain ⟨y, hy⟩ : ∃ y, (rd_T25 l (i : Int)).f1 = y := ⟨_, rfl⟩
  obtain ⟨m, hm⟩ : ∃ m, (rd_T25 l (i : Int)).f2.length = m := ⟨_, rfl⟩
  have HM : Aside0 (m < 9223372036854775808) := ⟨by have := Kd.C_max hC2; omega⟩
  have hck : checkE x y m = chk l i := by unfold chk; rw [hx, hy, hm]
  rw [hx] at y0
  rw [hy] at y1
  rw [hm] at y2 hc2
  clear hC2 hx hy hm
  by_cases hib : i < b
  ·have HE : Aside0 (checkE x y m = 0) := ⟨by rw [hck]; exact HPR.out i hib⟩
   clear hck hc2
   go_wp2_with (first | (go_at_call 44; refine (rCheck_calls x y A2 m c2 _ HM.out).mono ?_; rw [HE.out]; rintro e w4 ⟨rfl, hb⟩; have R4 := Aside0.mk (blk_below RI.out hb); have B4 := Aside0.mk (below_step BI.out hb); clear hb y0 y1 y2))
   go_roundw
   case measure => simp [intOf]; omega
   case rel => exact ⟨i + 1, by omega, by go_num, R4, B4⟩
  ·obtain rfl : i = b := by omega
   have HE : Aside0 (checkE x y m = c) := ⟨by rw [hck]; exact HBC.out⟩
   clear hck hc2
   go_wp2_with (first | (go_at_call 44; refine (rCheck_calls x y A2 m c2 _ HM.out).mono ?_; rw [HE.out]; rintro e w4 ⟨rfl, hb⟩; have R4 := Aside0.mk (blk_below RI.out hb); have B4 := Aside0.mk (below_step BI.out hb); clear hb y0 y1 y2) | ((with_reducible refine gate_store (p := 2) rfl ?_); refine storeP_event rfl rfl rfl gR 0 0 none 0 0 _ _ _ rfl rfl R4.out ?_; intro wz hm_ hst_ hbl_; have Rz := Aside0.mk (hm_); have Bz := Aside0.mk (B4.out.trans (hbl_ _ GR.out)); clear hm_ hst_ hbl_))
   refine bodyPost_ret (results_ct rfl _ _ gR 25 #[.int .i64 0, .int .i64 0, .slice none 0 0] (0, 0) _ rfl Rz.out Try.underlying25 rfl (by kernel_rfl)) rfl ?_
   exact ⟨rfl, Bz.out⟩
set_option maxHeartbeats 8000000 in
set_option maxRecDepth 100000 in
theorem rRestore_main (ps : List Pl) (A : Option Addr) (n cap : Nat) (w : World) (hC : Kd.C k25 w A n (ps.map Pl.s25)) (hn : 1 ≤ n ∧ n ≤ 13) (hok : ∀ i, i < n → (Pl.mk (ps.getD i plz).w (ps.getD i plz).h (ps.getD i plz).s).ok) :
    Calls Try.prog 36 #[.slice A n cap] w fun e w' => ((∀ k, k < n → (rsts ps k).1 = 0) → ∃ v, e = .returned (.tuple #[.agg #[.int .i64 ((rsts ps (n - 1)).2.w : Int), .int .i64 ((rsts ps (n - 1)).2.h : Int), v], .int .i64 0]) ∧ (nat .u32).R 50 w' w.heap.size (fun _ => True) v (rsts ps (n - 1)).2.s) ∧ ((∃ k, k < n ∧ (rsts ps k).1 ≠ 0) → e = .returned (.tuple #[.agg #[.int .i64 0, .int .i64 0, .slice none 0 0], .int .i64 141])) ∧ Below w.heap.size w w' := by
 have hu25 := Try.underlying25
 have HC := Aside0.mk hC
 have HOK := Aside0.mk hok
 have HPL : Aside0 (ps.length = n) := ⟨by have := Kd.C_len hC; rwa [List.length_map] at this⟩
 have t1 : ((n : Int) == 0) = false := by rw [beq_eq_false_iff_ne]; omega
 have t2 : decide ((13 : Int) < (n : Int)) = false := decide_eq_false (by omega)
 have t3 : decide (13 < n) = false := decide_eq_false (by omega)
 have t4 : (n == 0) = false := by rw [beq_eq_false_iff_ne]; omega
 clear hC hok
 go_enter Try.func36, Try.ntmps36
 go_wp2_with (first | ((with_reducible refine gate_dst (N := 2) rfl ?_); refine box_event ?hg (N := 2) ?hd (cs := #[.int .i64 0, .int .i64 0, .slice none 0 0]) (t := 25) ?hr ?_; (case hd => rfl); (case hg => rfl); (case hr => first | (go_simp; done) | (go_simp; rfl)); intro gR hg_ w1 hm_ hb_; have R1 := Aside0.mk (hm_); have B1 := Aside0.mk (hb_); have GR := Aside0.mk (show w.heap.size ≤ gR by rw [hg_]; exact Nat.le_refl _); clear hm_ hb_ hg_))
 go_loopw [5] (fun iv wr => ∃ (i : Nat), i ≤ n ∧ iv = .int .i64 (i : Int) ∧ Aside0 (wr.heap[gR]? = some (.cells #[.int .i64 0, .int .i64 0, .slice none 0 0] 25 (0, 0))) ∧ Aside0 (Below w.heap.size w wr)) (fun iv _ => n - (intOf iv).toNat)
 case atStart => exact ⟨0, Nat.zero_le _, rfl, R1, B1⟩
 case round =>
  clear R1 B1
  obtain ⟨i, hi, rfl, RI, BI⟩ := hrel
  by_cases hlt : i < n
  ·have c1 : decide ((i : Int) < (n : Int)) = true := decide_eq_true (by omega)
   have i1 : ((i : Int) < (n : Int)) = True := eq_true (by omega)
   obtain ⟨q, hq⟩ : ∃ q, ps.getD i plz = q := ⟨_, rfl⟩
   obtain ⟨ad, aq, A2, m, c2, rfl, haq, y0, y1, y2, hQL⟩ := cells_s25 (Kd.C_below HC.out BI.out) i hlt
   rw [hq] at y0 y1 hQL
   have hqo := HOK.out i hlt
   rw [hq] at hqo
   obtain ⟨x, hx⟩ : ∃ x : Int, (q.w : Int) = x := ⟨_, rfl⟩
   obtain ⟨y, hy⟩ : ∃ y : Int, (q.h : Int) = y := ⟨_, rfl⟩
   have HM : Aside0 (m < 9223372036854775808) := ⟨hQL.lt⟩
   have HE : Aside0 (checkE x y m = 0) := ⟨by rw [← hx, ← hy, ← hQL.2.2]; exact hqo.checkE⟩
   rw [hx] at y0
   rw [hy] at y1
   clear hQL hqo hx hy hq
   go_wp2_with (first | (go_at_call 44; refine (rCheck_calls x y A2 m c2 _ HM.out).mono ?_; rw [HE.out]; rintro e w4 ⟨rfl, hb⟩; have R4 := Aside0.mk (blk_below RI.out hb); have B4 := Aside0.mk (below_step BI.out hb); clear hb y0 y1 y2))
   go_roundw
   case measure => simp [intOf]; omega
   case rel => exact ⟨i + 1, by omega, by go_num, R4, B4⟩
  ·obtain rfl : i = n := by omega
   have c1 : decide ((i : Int) < (i : Int)) = false := decide_eq_false (by omega)
   obtain ⟨j, rfl⟩ : ∃ j, i = j + 1 := ⟨i - 1, by omega⟩
   have hj : j + 1 - 1 = j := by omega
   have hji : j < j + 1 := by omega
   have e0 : (j : Int) + 1 - 2 = (j : Int) - 1 := by omega
   have e1 : wrap64 ((j : Int) + 1 - 1) = (j : Int) := by rw [Int.add_sub_cancel]; exact w64 (by omega) (by omega)
   have e2 : wrap64 ((j : Int) + 1 - 2) = (j : Int) - 1 := by rw [e0]; exact w64 (by clear e1; omega) (by clear e1; omega)
   have i1 : ((j : Int) < (j : Int) + 1) = True := eq_true (by omega)
   obtain ⟨q, hq⟩ : ∃ q, ps.getD j plz = q := ⟨_, rfl⟩
   obtain ⟨ad, aq, A2, m, c2, rfl, haq, y0_, y1_, y2_, hQL⟩ := cells_s25 HC.out j hji
   rw [hq] at y0_ y1_ hQL
   have y0 := pw_cell_below BI.out y0_
   have y1 := pw_cell_below BI.out y1_
   have y2 := pw_cell_below BI.out y2_
   clear y0_ y1_ y2_
   have hqo := HOK.out j hji
   rw [hq] at hqo
   have HQO := Aside0.mk hqo
   have HQL := Aside0.mk hQL
   have HR0 : Aside0 (rsts ps 0 = (0, q)) := ⟨by rw [← hq, ← hj, ← HPL.out]; rfl⟩
   have HJ1 := Aside0.mk hj
   clear hQL hqo hq hj
   go_wp2_with (first | (go_at_call 67; refine (rCopy_calls q.w q.h q.s A2 m c2 _ HQO.out (HQL.out.below BI.out)).mono ?_; rintro e w7 ⟨v7, rfl, hR, hb⟩; obtain ⟨A7, c7, hv7⟩ := Kd.R_slice hR; obtain ⟨n7, hn7⟩ : ∃ n7, q.s.length = n7 := ⟨_, rfl⟩; rw [hn7] at hv7; subst hv7; have V7 := Aside0.mk (Kd.R_lower hR BI.out.size); have R7 := Aside0.mk (blk_below RI.out hb); have B7 := Aside0.mk (below_step BI.out hb); clear hR hn7 hb y0 y1 y2) | ((with_reducible refine gate_dst (N := 7) rfl ?_); refine box_event ?hg (N := 7) ?hd (cs := #[.int .i64 0, .int .i64 0, .slice none 0 0]) (t := 25) ?hr ?_; (case hd => rfl); (case hg => rfl); (case hr => first | (go_simp; done) | (go_simp; rfl)); intro g7 hg_ w8 hm_ hb_; have R8 := Aside0.mk (blk_below R7.out hb_); have Z8 := Aside0.mk (hm_); have B8 := Aside0.mk (below_step B7.out hb_); have V8 := Aside0.mk (Kd.R_below V7.out hb_); have G7 := Aside0.mk (show w.heap.size ≤ g7 by rw [hg_]; exact below_size B7.out); have NR7 := Aside0.mk (show gR ≠ g7 by rw [hg_]; have := blk_lt R7.out; omega); clear hm_ hb_ hg_ R7 B7 V7) | ((with_reducible refine gate_store (p := 7) rfl ?_); refine storeP_event rfl rfl rfl g7 (q.w : Int) (q.h : Int) A7 n7 c7 _ _ _ rfl rfl Z8.out ?_; intro w9 hm_ hst_ hbl_; have Z9 := Aside0.mk (hm_); have R9 := Aside0.mk ((hst_ gR NR7.out).trans R8.out); have B9 := Aside0.mk (B8.out.trans (hbl_ _ G7.out)); have V9 := Aside0.mk (Kd.R_mono (Kd.R_move (Kd.R_types V8.out Z8.out (by decide)) (fun k hk => hst_ k hk.2)) (fun _ _ => trivial)); clear Z8 R8 B8 V8; clear hm_ hst_ hbl_))
   clear RI BI e0 e1 e2 haq
   have HJI := Aside0.mk hji
   go_loopw [8] (fun jv wr => ∃ (k : Nat) (p : Pl) (Ap : Option Addr) (np cp : Nat), k ≤ j ∧ (∃ z : Int, jv = .int .i64 z ∧ z = (j : Int) - 1 - (k : Int)) ∧ Aside0 (rsts ps k = (0, p) ∧ ∀ k', k' < k → (rsts ps k').1 = 0) ∧ Aside0 (wr.heap[gR]? = some (.cells #[.int .i64 0, .int .i64 0, .slice none 0 0] 25 (0, 0))) ∧ Aside0 (Below w.heap.size w wr) ∧ Aside0 (wr.heap[g7]? = some (.cells #[.int .i64 (p.w : Int), .int .i64 (p.h : Int), .slice Ap np cp] 25 (0, 0))) ∧ Aside0 ((nat .u32).R 50 wr w.heap.size (fun _ => True) (.slice Ap np cp) p.s) ∧ Aside0 ((Pl.mk p.w p.h p.s).ok)) (fun jv _ => ((intOf jv) + 1).toNat)
   case atStart => exact ⟨0, q, A7, n7, c7, Nat.zero_le _, ⟨_, rfl, by simp⟩, ⟨HR0.out, fun k' hk => absurd hk (Nat.not_lt_zero _)⟩, R9, B9, Z9, V9, HQO⟩
   case round =>
    clear R9 B9 Z9 V9 HQL HQO
    obtain ⟨k, p, Ap, np, cp, hk, ⟨z, rfl, hz⟩, HK, RI, BI, ZI, VI, HPO⟩ := hrel
    by_cases hkj : k < j
    ·obtain ⟨jj, hjj⟩ : ∃ jj : Nat, j - 1 - k = jj := ⟨_, rfl⟩
     obtain rfl : z = (jj : Int) := by omega
     have HZZ := Aside0.mk hz
     have hjn : jj < j + 1 := by omega
     have t5 : decide ((0 : Int) ≤ (jj : Int)) = true := decide_eq_true (by omega)
     have e3 : wrap64 ((jj : Int) - 1) = (jj : Int) - 1 := w64 (by omega) (by omega)
     have i1 : ((jj : Int) < (j : Int) + 1) = True := eq_true (by omega)
     obtain ⟨q2, hq'⟩ : ∃ q', ps.getD jj plz = q' := ⟨_, rfl⟩
     obtain ⟨ad, aq, A2, m, c2, hA, haq, y0_, y1_, y2_, hQL⟩ := cells_s25 HC.out jj hjn
     injection hA with hA
     subst hA
     rw [hq'] at y0_ y1_ hQL
     have y0 := pw_cell_below BI.out y0_
     have y1 := pw_cell_below BI.out y1_
     have y2 := pw_cell_below BI.out y2_
     clear y0_ y1_ y2_
     have hqo := HOK.out jj hjn
     rw [hq'] at hqo
     have HSU : Aside0 (rsts ps (k + 1) = if hf q2.w = p.w ∧ hf q2.h = p.h then (0, ⟨q2.w, q2.h, joiS p.w p.h q2.w q2.h p.s q2.s⟩) else (141, p)) := ⟨by
      have e9 : ps.length - 2 - k = jj := by rw [HPL.out]; omega
      rw [rsts, e9, hq', HK.out.1]⟩
     have HZ0 : Aside0 (∀ k', k' < k + 1 → (rsts ps k').1 = 0) := ⟨fun k' hk' => by
      by_cases h9 : k' < k
      ·exact HK.out.2 k' h9
      ·obtain rfl : k' = k := by omega
       rw [HK.out.1]⟩
     have HPL1 : Aside0 (PL wr Ap np cp p.s) := ⟨by have h := Kd.R_reads' VI.out; exact ⟨by rw [h.1]; exact h.2.2, h.2.1, h.1.symm⟩⟩
     have HQO := Aside0.mk hqo
     have HQL := Aside0.mk hQL
     have HKJ := Aside0.mk hkj
     clear hqo hQL hq' HK hz hjj
     by_cases hform : hf q2.w = p.w ∧ hf q2.h = p.h
     ·have HW := Aside0.mk hform.1
      have HH := Aside0.mk hform.2
      have HSV : Aside0 (rsts ps (k + 1) = (0, ⟨q2.w, q2.h, joiS p.w p.h q2.w q2.h p.s q2.s⟩)) := ⟨by rw [HSU.out, if_pos hform]⟩
      clear hform HSU
      go_upto_region 14 with (fail)
      have ZD := Aside0.mk (blk_drew ZI.out)
      have RD := Aside0.mk (blk_drew RI.out)
      have BD := Aside0.mk (below_drew BI.out)
      have Y0 := Aside0.mk y0
      have Y1 := Aside0.mk y1
      have Y2 := Aside0.mk y2
      have HPL2 : Aside0 (PL wr.drew Ap np cp p.s) := ⟨HPL1.out.below (below_drew (Below.refl _ wr))⟩
      have HQL2 : Aside0 (PL wr.drew A2 m c2 q2.s) := ⟨HQL.out.below (below_drew BI.out)⟩
      have BR_ := Aside0.mk (Below.refl wr.drew.heap.size wr.drew)
      have Y0 : Aside0 (wr.drew.cell? aq = some (.int .i64 (q2.w : Int))) := ⟨Y0.out⟩
      have Y1 : Aside0 (wr.drew.cell? ⟨aq.block, aq.off + 1, none⟩ = some (.int .i64 (q2.h : Int))) := ⟨Y1.out⟩
      have Y2 : Aside0 (wr.drew.cell? ⟨aq.block, aq.off + 2, none⟩ = some (.slice A2 m c2)) := ⟨Y2.out⟩
      clear y0 y1 y2
      refine start_ (n := 12) (S := fun w' => w'.cell? ⟨g7, 0, none⟩ = some (.int .i64 (p.w : Int)) ∧ w'.cell? ⟨g7, 1, none⟩ = some (.int .i64 (p.h : Int)) ∧ w'.cell? ⟨g7, 2, none⟩ = some (.slice Ap np cp) ∧ w'.cell? aq = some (.int .i64 (q2.w : Int)) ∧ w'.cell? ⟨aq.block, aq.off + 1, none⟩ = some (.int .i64 (q2.h : Int)) ∧ w'.cell? ⟨aq.block, aq.off + 2, none⟩ = some (.slice A2 m c2)) (ds := [10]) #[ff_,ff_,ff_,ff_,ff_,ff_,ff_,ff_,ff_,ff_,ff_,ff_] (by kernel_rfl) rfl rfl ⟨(blk_cell (blk_below ZD.out BR_.out) 0).trans rfl, (blk_cell (blk_below ZD.out BR_.out) 1).trans rfl, (blk_cell (blk_below ZD.out BR_.out) 2).trans rfl, pw_cell_below BR_.out Y0.out, pw_cell_below BR_.out Y1.out, pw_cell_below BR_.out Y2.out⟩ (fun hHeld => ?_)
      generalize wr.drew = wd at *
      refine pure_ (i := 1) (N := some 48) (v := ?_) (a' := ?_) #[ff_,tt_,ff_,ff_,ff_,ff_,ff_,ff_,ff_,ff_,ff_,ff_] rfl rfl (by kernel_rfl) (fun _ _ _ h => h) (Or.inl ⟨by rfl, ?_⟩) ?_ ?_
      rotate_left
      ·intro w'
       go_simp
       with_reducible rfl
      rotate_left
      ·simp only [Act.put, List.setIfInBounds_toArray, List.set_cons_zero, List.set_cons_succ, i64_w, i32_w]
       rfl
      refine pure_ (i := 2) (N := some 49) (v := ?_) (a' := ?_) #[ff_,tt_,tt_,ff_,ff_,ff_,ff_,ff_,ff_,ff_,ff_,ff_] rfl rfl (by kernel_rfl) (fun _ _ _ h => h) (Or.inl ⟨by rfl, ?_⟩) ?_ ?_
      rotate_left
      ·intro w'
       go_simp
       with_reducible rfl
      rotate_left
      ·simp only [Act.put, List.setIfInBounds_toArray, List.set_cons_zero, List.set_cons_succ, i64_w, i32_w]
       rfl
      refine pure_ (i := 3) (N := some 50) (v := ?_) (a' := ?_) #[ff_,tt_,tt_,tt_,ff_,ff_,ff_,ff_,ff_,ff_,ff_,ff_] rfl rfl (by kernel_rfl) (fun _ _ _ h => h) (Or.inl ⟨by rfl, ?_⟩) ?_ ?_
      rotate_left
      ·intro w'
       go_simp
       with_reducible rfl
      rotate_left
      ·simp only [Act.put, List.setIfInBounds_toArray, List.set_cons_zero, List.set_cons_succ, i64_w, i32_w]
       rfl
      refine take_ (i := 0) (N := some 47) (v := ?_) (a' := ?_) #[tt_,tt_,tt_,tt_,ff_,ff_,ff_,ff_,ff_,ff_,ff_,ff_] rfl rfl (by kernel_rfl) (fun _ _ _ h => h) (Or.inl ⟨by rfl, ?_⟩) hHeld ?_ ?_
      rotate_left
      ·rintro w' ⟨s0, s1, s2, s3, s4, s5⟩
       go_simp
       with_reducible rfl
      rotate_left
      ·simp only [Act.put, List.setIfInBounds_toArray, List.set_cons_zero, List.set_cons_succ, i64_w, i32_w]
       rfl
      refine take_ (i := 4) (N := some 51) (v := ?_) (a' := ?_) #[tt_,tt_,tt_,tt_,tt_,ff_,ff_,ff_,ff_,ff_,ff_,ff_] rfl rfl (by kernel_rfl) (fun _ _ _ h => h) (Or.inl ⟨by rfl, ?_⟩) hHeld ?_ ?_
      rotate_left
      ·rintro w' ⟨s0, s1, s2, s3, s4, s5⟩
       go_simp
       with_reducible rfl
      rotate_left
      ·simp only [Act.put, List.setIfInBounds_toArray, List.set_cons_zero, List.set_cons_succ, i64_w, i32_w]
       rfl
      refine join_ (σ := Option Addr × Nat × Nat × Nat) 2 #[tt_,tt_,tt_,tt_,tt_,tt_,tt_,tt_,tt_,tt_,ff_,ff_] (fun q_ => [(52, .tuple #[.agg #[.int .i64 (q2.w : Int), .int .i64 (q2.h : Int), .slice q_.1 q_.2.1 q_.2.2.1], .int .i64 0]), (46, .tuple #[.agg #[.int .i64 (q2.w : Int), .int .i64 (q2.h : Int), .slice q_.1 q_.2.1 q_.2.2.1], .int .i64 0]), (53, .agg #[.int .i64 (q2.w : Int), .int .i64 (q2.h : Int), .slice q_.1 q_.2.1 q_.2.2.1]), (54, .int .i64 0), (9, .pointer (some ⟨q_.2.2.2, 0, none⟩))]) (fun q_ w' => (nat .u32).R 50 w' wd.heap.size (fun _ => True) (.slice q_.1 q_.2.1 q_.2.2.1) (joiS p.w p.h q2.w q2.h p.s q2.s) ∧ w'.heap[q_.2.2.2]? = some (.cells #[.int .i64 0, .int .i64 0, .slice none 0 0] 25 (0, 0)) ∧ wd.heap.size ≤ q_.2.2.2 ∧ Below wd.heap.size wd w') ?_ ?_
      rotate_left
      ·intro hCont
       refine two_ (i := 5) (j := 9) (Ni := some 52) (Nj := some 9) #[tt_,tt_,tt_,tt_,tt_,tt_,ff_,ff_,ff_,ff_,ff_,ff_] #[tt_,tt_,tt_,tt_,tt_,ff_,ff_,ff_,ff_,tt_,ff_,ff_] rfl rfl rfl rfl (by kernel_rfl) (by decide) (by decide) (fun K hK => ?_) (fun K hK => ?_)
       ·skip
        refine goes_ Try.func32 (by kernel_rfl) rfl #[.agg #[.int .i64 (p.w : Int), .int .i64 (p.h : Int), .slice Ap np cp], .agg #[.int .i64 (q2.w : Int), .int .i64 (q2.h : Int), .slice A2 m c2]] (by rfl) rfl rfl (by (try simp only [List.map_toArray, List.map_cons, List.map_nil]); rfl) ?_
        refine (rJoin_ok p.w p.h q2.w q2.h Ap A2 np cp m c2 p.s q2.s _ (HPL2.out.below BR_.out) (HQL2.out.below BR_.out) HPO.out HQO.out HW.out HH.out).mono ?_
        rintro e w_5 ⟨v11, rfl, hR, hb⟩
        refine ⟨_, rfl, ?_⟩
        obtain ⟨A11, c11, hv11⟩ := Kd.R_slice hR
        obtain ⟨n11, hn11⟩ : ∃ n11, (joiS p.w p.h q2.w q2.h p.s q2.s).length = n11 := ⟨_, rfl⟩
        rw [hn11] at hv11
        subst hv11
        have V_5 := Aside0.mk (Kd.R_lower hR (below_size BR_.out))
        have BR_5 := Aside0.mk (below_step BR_.out hb)
        clear hR hn11 hb
        refine hK.out _ _ ⟨(blk_cell (blk_below ZD.out BR_5.out) 0).trans rfl, (blk_cell (blk_below ZD.out BR_5.out) 1).trans rfl, (blk_cell (blk_below ZD.out BR_5.out) 2).trans rfl, pw_cell_below BR_5.out Y0.out, pw_cell_below BR_5.out Y1.out, pw_cell_below BR_5.out Y2.out⟩ (fun hHeld => ?_)
        clear hK K
        refine norm_ (a' := ?_) ?_ ?_
        rotate_left
        ·show Act.put _ (some 52) _ = _
         simp only [Act.put, List.setIfInBounds_toArray, List.set_cons_zero, List.set_cons_succ, i64_w, i32_w]
         rfl
        refine pure_ (i := 6) (N := some 46) (v := ?_) (a' := ?_) #[tt_,tt_,tt_,tt_,tt_,tt_,tt_,ff_,ff_,ff_,ff_,ff_] rfl rfl (by kernel_rfl) (fun _ _ _ h => h) (Or.inl ⟨by rfl, ?_⟩) ?_ ?_
        rotate_left
        ·intro w'
         go_simp
         with_reducible rfl
        rotate_left
        ·simp only [Act.put, List.setIfInBounds_toArray, List.set_cons_zero, List.set_cons_succ, i64_w, i32_w]
         rfl
        refine pure_ (i := 7) (N := some 53) (v := ?_) (a' := ?_) #[tt_,tt_,tt_,tt_,tt_,tt_,tt_,tt_,ff_,ff_,ff_,ff_] rfl rfl (by kernel_rfl) (fun _ _ _ h => h) (Or.inl ⟨by rfl, ?_⟩) ?_ ?_
        rotate_left
        ·intro w'
         go_simp
         with_reducible rfl
        rotate_left
        ·simp only [Act.put, List.setIfInBounds_toArray, List.set_cons_zero, List.set_cons_succ, i64_w, i32_w]
         rfl
        refine pure_ (i := 8) (N := some 54) (v := ?_) (a' := ?_) #[tt_,tt_,tt_,tt_,tt_,tt_,tt_,tt_,tt_,ff_,ff_,ff_] rfl rfl (by kernel_rfl) (fun _ _ _ h => h) (Or.inl ⟨by rfl, ?_⟩) ?_ ?_
        rotate_left
        ·intro w'
         go_simp
         with_reducible rfl
        rotate_left
        ·simp only [Act.put, List.setIfInBounds_toArray, List.set_cons_zero, List.set_cons_succ, i64_w, i32_w]
         rfl
        refine one_ (i := 9) (N := some 9) #[tt_,tt_,tt_,tt_,tt_,tt_,tt_,tt_,tt_,tt_,ff_,ff_] rfl rfl (by kernel_rfl) (by decide) (fun K hK => ?_)
        refine alloc_step (cs := #[.int .i64 0, .int .i64 0, .slice none 0 0]) (t := 25) (by rfl) rfl (by first | (go_simp; done) | (go_simp; rfl)) ?_
        intro g9 hg17
        have BR_5_9 := Aside0.mk (below_alloc BR_5.out (.cells #[.int .i64 0, .int .i64 0, .slice none 0 0] 25 (0, 0)))
        have Z_5_9 := Aside0.mk (blk_new w_5 (.cells #[.int .i64 0, .int .i64 0, .slice none 0 0] 25 (0, 0)))
        rw [← hg17] at Z_5_9
        have GE := Aside0.mk (show wd.heap.size ≤ g9 by rw [hg17]; exact below_size BR_5.out)
        have V_5_9 := Aside0.mk (Kd.R_below V_5.out (below_alloc (Below.refl _ w_5) (.cells #[.int .i64 0, .int .i64 0, .slice none 0 0] 25 (0, 0))))
        clear hg17
        generalize w_5.alloc (.cells #[.int .i64 0, .int .i64 0, .slice none 0 0] 25 (0, 0)) = w_5_9 at *
        refine hK.out _ _ ⟨(blk_cell (blk_below ZD.out BR_5_9.out) 0).trans rfl, (blk_cell (blk_below ZD.out BR_5_9.out) 1).trans rfl, (blk_cell (blk_below ZD.out BR_5_9.out) 2).trans rfl, pw_cell_below BR_5_9.out Y0.out, pw_cell_below BR_5_9.out Y1.out, pw_cell_below BR_5_9.out Y2.out⟩ (fun hHeld => ?_)
        clear hK K
        refine norm_ (a' := ?_) ?_ ?_
        rotate_left
        ·show Act.put _ (some 9) _ = _
         simp only [Act.put, List.setIfInBounds_toArray, List.set_cons_zero, List.set_cons_succ, i64_w, i32_w]
         rfl
        exact norm_ (by rfl) (hCont (A11, n11, c11, g9) _ ⟨V_5_9.out, Z_5_9.out, GE.out, BR_5_9.out⟩)
       ·skip
        refine alloc_step (cs := #[.int .i64 0, .int .i64 0, .slice none 0 0]) (t := 25) (by rfl) rfl (by first | (go_simp; done) | (go_simp; rfl)) ?_
        intro g9 hg17
        have BR_9 := Aside0.mk (below_alloc BR_.out (.cells #[.int .i64 0, .int .i64 0, .slice none 0 0] 25 (0, 0)))
        have Z_9 := Aside0.mk (blk_new wd (.cells #[.int .i64 0, .int .i64 0, .slice none 0 0] 25 (0, 0)))
        rw [← hg17] at Z_9
        have GE := Aside0.mk (show wd.heap.size ≤ g9 by rw [hg17]; exact below_size BR_.out)
        clear hg17
        generalize wd.alloc (.cells #[.int .i64 0, .int .i64 0, .slice none 0 0] 25 (0, 0)) = w_9 at *
        refine hK.out _ _ ⟨(blk_cell (blk_below ZD.out BR_9.out) 0).trans rfl, (blk_cell (blk_below ZD.out BR_9.out) 1).trans rfl, (blk_cell (blk_below ZD.out BR_9.out) 2).trans rfl, pw_cell_below BR_9.out Y0.out, pw_cell_below BR_9.out Y1.out, pw_cell_below BR_9.out Y2.out⟩ (fun hHeld => ?_)
        clear hK K
        refine norm_ (a' := ?_) ?_ ?_
        rotate_left
        ·show Act.put _ (some 9) _ = _
         simp only [Act.put, List.setIfInBounds_toArray, List.set_cons_zero, List.set_cons_succ, i64_w, i32_w]
         rfl
        refine one_ (i := 5) (N := some 52) #[tt_,tt_,tt_,tt_,tt_,tt_,ff_,ff_,ff_,tt_,ff_,ff_] rfl rfl (by kernel_rfl) (by decide) (fun K hK => ?_)
        refine goes_ Try.func32 (by kernel_rfl) rfl #[.agg #[.int .i64 (p.w : Int), .int .i64 (p.h : Int), .slice Ap np cp], .agg #[.int .i64 (q2.w : Int), .int .i64 (q2.h : Int), .slice A2 m c2]] (by rfl) rfl rfl (by (try simp only [List.map_toArray, List.map_cons, List.map_nil]); rfl) ?_
        refine (rJoin_ok p.w p.h q2.w q2.h Ap A2 np cp m c2 p.s q2.s _ (HPL2.out.below BR_9.out) (HQL2.out.below BR_9.out) HPO.out HQO.out HW.out HH.out).mono ?_
        rintro e w_9_5 ⟨v11, rfl, hR, hb⟩
        refine ⟨_, rfl, ?_⟩
        obtain ⟨A11, c11, hv11⟩ := Kd.R_slice hR
        obtain ⟨n11, hn11⟩ : ∃ n11, (joiS p.w p.h q2.w q2.h p.s q2.s).length = n11 := ⟨_, rfl⟩
        rw [hn11] at hv11
        subst hv11
        have V_9_5 := Aside0.mk (Kd.R_lower hR (below_size BR_9.out))
        have BR_9_5 := Aside0.mk (below_step BR_9.out hb)
        have Z_9_5 := Aside0.mk (blk_below Z_9.out hb)
        clear hR hn11 hb
        refine hK.out _ _ ⟨(blk_cell (blk_below ZD.out BR_9_5.out) 0).trans rfl, (blk_cell (blk_below ZD.out BR_9_5.out) 1).trans rfl, (blk_cell (blk_below ZD.out BR_9_5.out) 2).trans rfl, pw_cell_below BR_9_5.out Y0.out, pw_cell_below BR_9_5.out Y1.out, pw_cell_below BR_9_5.out Y2.out⟩ (fun hHeld => ?_)
        clear hK K
        refine norm_ (a' := ?_) ?_ ?_
        rotate_left
        ·show Act.put _ (some 52) _ = _
         simp only [Act.put, List.setIfInBounds_toArray, List.set_cons_zero, List.set_cons_succ, i64_w, i32_w]
         rfl
        refine pure_ (i := 6) (N := some 46) (v := ?_) (a' := ?_) #[tt_,tt_,tt_,tt_,tt_,tt_,tt_,ff_,ff_,tt_,ff_,ff_] rfl rfl (by kernel_rfl) (fun _ _ _ h => h) (Or.inl ⟨by rfl, ?_⟩) ?_ ?_
        rotate_left
        ·intro w'
         go_simp
         with_reducible rfl
        rotate_left
        ·simp only [Act.put, List.setIfInBounds_toArray, List.set_cons_zero, List.set_cons_succ, i64_w, i32_w]
         rfl
        refine pure_ (i := 7) (N := some 53) (v := ?_) (a' := ?_) #[tt_,tt_,tt_,tt_,tt_,tt_,tt_,tt_,ff_,tt_,ff_,ff_] rfl rfl (by kernel_rfl) (fun _ _ _ h => h) (Or.inl ⟨by rfl, ?_⟩) ?_ ?_
        rotate_left
        ·intro w'
         go_simp
         with_reducible rfl
        rotate_left
        ·simp only [Act.put, List.setIfInBounds_toArray, List.set_cons_zero, List.set_cons_succ, i64_w, i32_w]
         rfl
        refine pure_ (i := 8) (N := some 54) (v := ?_) (a' := ?_) #[tt_,tt_,tt_,tt_,tt_,tt_,tt_,tt_,tt_,tt_,ff_,ff_] rfl rfl (by kernel_rfl) (fun _ _ _ h => h) (Or.inl ⟨by rfl, ?_⟩) ?_ ?_
        rotate_left
        ·intro w'
         go_simp
         with_reducible rfl
        rotate_left
        ·simp only [Act.put, List.setIfInBounds_toArray, List.set_cons_zero, List.set_cons_succ, i64_w, i32_w]
         rfl
        exact norm_ (by rfl) (hCont (A11, n11, c11, g9) _ ⟨V_9_5.out, Z_9_5.out, GE.out, BR_9_5.out⟩)
      rintro ⟨A11, n11, c11, g9⟩ w50 ⟨hV, hZ, hge, hB⟩
      simp only at hV hZ hge
      have V50 := Aside0.mk (hV)
      have Z50 := Aside0.mk (hZ)
      have GE := Aside0.mk (hge)
      have BR50 := Aside0.mk (hB)
      have hHeld : w50.cell? ⟨g7, 0, none⟩ = some (.int .i64 (p.w : Int)) ∧ w50.cell? ⟨g7, 1, none⟩ = some (.int .i64 (p.h : Int)) ∧ w50.cell? ⟨g7, 2, none⟩ = some (.slice Ap np cp) ∧ w50.cell? aq = some (.int .i64 (q2.w : Int)) ∧ w50.cell? ⟨aq.block, aq.off + 1, none⟩ = some (.int .i64 (q2.h : Int)) ∧ w50.cell? ⟨aq.block, aq.off + 2, none⟩ = some (.slice A2 m c2) := ⟨(blk_cell (blk_below ZD.out BR50.out) 0).trans rfl, (blk_cell (blk_below ZD.out BR50.out) 1).trans rfl, (blk_cell (blk_below ZD.out BR50.out) 2).trans rfl, pw_cell_below BR50.out Y0.out, pw_cell_below BR50.out Y1.out, pw_cell_below BR50.out Y2.out⟩
      clear hV hZ hge hB
      refine norm_ (a' := ?_) ?_ ?_
      rotate_left
      ·simp only [YtodlgdpkadkjjaaW.PrintLast.putAll, Act.put, List.setIfInBounds_toArray, List.set_cons_zero, List.set_cons_succ]
       rfl
      refine last_ (i := 10) (N := none) #[tt_,tt_,tt_,tt_,tt_,tt_,tt_,tt_,tt_,tt_,tt_,ff_] rfl rfl (by kernel_rfl) (by decide) (fun K hK => ?_)
      refine storeP_step (by rfl) rfl rfl g9 (q2.w : Int) (q2.h : Int) A11 n11 c11 _ _ _ rfl rfl Z50.out ?_
      intro w51 hm_ hst_ hbl_
      have Z51 := Aside0.mk (hm_)
      have BR51 := Aside0.mk (BR50.out.trans (hbl_ _ GE.out))
      have V51 := Aside0.mk (Kd.R_mono (Kd.R_move (Kd.R_types V50.out Z50.out (by decide)) (fun k hk => hst_ k hk.2)) (ok' := fun _ => True) (fun _ _ => trivial))
      clear hm_ hst_ hbl_
      refine hK.out _ _ ?_
      clear hK K
      refine pure_ (i := 11) (N := some 10) (v := ?_) (a' := ?_) #[tt_,tt_,tt_,tt_,tt_,tt_,tt_,tt_,tt_,tt_,tt_,tt_] rfl rfl (by kernel_rfl) (fun _ _ _ h => h) (Or.inl ⟨by rfl, ?_⟩) ?_ ?_
      rotate_left
      ·intro w'
       go_simp
       with_reducible rfl
      rotate_left
      ·simp only [Act.put, List.setIfInBounds_toArray, List.set_cons_zero, List.set_cons_succ, i64_w, i32_w]
       rfl
      refine done_ (by kernel_rfl) ?_
      have ZE := Aside0.mk (blk_below ZD.out BR51.out)
      have RE := Aside0.mk (blk_below RD.out BR51.out)
      have BE := Aside0.mk (below_step BD.out BR51.out)
      have VE := Aside0.mk (Kd.R_lower V51.out BD.out.size)
      have n0 := (blk_cell Z51.out 0).trans rfl
      have n1 := (blk_cell Z51.out 1).trans rfl
      have n2 := (blk_cell Z51.out 2).trans rfl
      go_wp2_with (first | ((with_reducible refine gate_store (p := 7) rfl ?_); refine storeP_event rfl rfl rfl g7 (q2.w : Int) (q2.h : Int) A11 n11 c11 _ _ _ rfl rfl ZE.out ?_; intro w60 hm_ hst_ hbl_; have Z60 := Aside0.mk (hm_); have R60 := Aside0.mk ((hst_ gR NR7.out).trans RE.out); have B60 := Aside0.mk (BE.out.trans (hbl_ _ G7.out)); have V60 := Aside0.mk (Kd.R_mono (Kd.R_move (Kd.R_types VE.out ZE.out (by decide)) (fun k hk => hst_ k hk.2)) (ok' := fun _ => True) (fun _ _ => trivial)); clear hm_ hst_ hbl_))
      go_roundw
      case measure => first | (simp [intOf]; done) | (simp [intOf]; omega)
      case rel => exact ⟨k + 1, ⟨q2.w, q2.h, joiS p.w p.h q2.w q2.h p.s q2.s⟩, A11, n11, c11, by omega, ⟨_, rfl, by have := HZZ.out; omega⟩, ⟨HSV.out, HZ0.out⟩, R60, B60, Z60, V60, ⟨joi_ok HQO.out⟩⟩
     ·have HSV : Aside0 (rsts ps (k + 1) = (141, p)) := ⟨by rw [HSU.out, if_neg hform]⟩
      have HNF := Aside0.mk hform
      have HKX : Aside0 (∃ k', k' < j + 1 ∧ (rsts ps k').1 ≠ 0) := ⟨⟨k + 1, by omega, by rw [HSV.out]; exact (by decide : (141 : Nat) ≠ 0)⟩⟩
      clear hform HSU
      go_upto_region 14 with (fail)
      have ZD := Aside0.mk (blk_drew ZI.out)
      have RD := Aside0.mk (blk_drew RI.out)
      have BD := Aside0.mk (below_drew BI.out)
      have Y0 := Aside0.mk y0
      have Y1 := Aside0.mk y1
      have Y2 := Aside0.mk y2
      have HPL2 : Aside0 (PL wr.drew Ap np cp p.s) := ⟨HPL1.out.below (below_drew (Below.refl _ wr))⟩
      have HQL2 : Aside0 (PL wr.drew A2 m c2 q2.s) := ⟨HQL.out.below (below_drew BI.out)⟩
      have BR_ := Aside0.mk (Below.refl wr.drew.heap.size wr.drew)
      have Y0 : Aside0 (wr.drew.cell? aq = some (.int .i64 (q2.w : Int))) := ⟨Y0.out⟩
      have Y1 : Aside0 (wr.drew.cell? ⟨aq.block, aq.off + 1, none⟩ = some (.int .i64 (q2.h : Int))) := ⟨Y1.out⟩
      have Y2 : Aside0 (wr.drew.cell? ⟨aq.block, aq.off + 2, none⟩ = some (.slice A2 m c2)) := ⟨Y2.out⟩
      clear y0 y1 y2
      refine start_ (n := 12) (S := fun w' => w'.cell? ⟨g7, 0, none⟩ = some (.int .i64 (p.w : Int)) ∧ w'.cell? ⟨g7, 1, none⟩ = some (.int .i64 (p.h : Int)) ∧ w'.cell? ⟨g7, 2, none⟩ = some (.slice Ap np cp) ∧ w'.cell? aq = some (.int .i64 (q2.w : Int)) ∧ w'.cell? ⟨aq.block, aq.off + 1, none⟩ = some (.int .i64 (q2.h : Int)) ∧ w'.cell? ⟨aq.block, aq.off + 2, none⟩ = some (.slice A2 m c2)) (ds := [10]) #[ff_,ff_,ff_,ff_,ff_,ff_,ff_,ff_,ff_,ff_,ff_,ff_] (by kernel_rfl) rfl rfl ⟨(blk_cell (blk_below ZD.out BR_.out) 0).trans rfl, (blk_cell (blk_below ZD.out BR_.out) 1).trans rfl, (blk_cell (blk_below ZD.out BR_.out) 2).trans rfl, pw_cell_below BR_.out Y0.out, pw_cell_below BR_.out Y1.out, pw_cell_below BR_.out Y2.out⟩ (fun hHeld => ?_)
      generalize wr.drew = wd at *
      refine pure_ (i := 1) (N := some 48) (v := ?_) (a' := ?_) #[ff_,tt_,ff_,ff_,ff_,ff_,ff_,ff_,ff_,ff_,ff_,ff_] rfl rfl (by kernel_rfl) (fun _ _ _ h => h) (Or.inl ⟨by rfl, ?_⟩) ?_ ?_
      rotate_left
      ·intro w'
       go_simp
       with_reducible rfl
      rotate_left
      ·simp only [Act.put, List.setIfInBounds_toArray, List.set_cons_zero, List.set_cons_succ, i64_w, i32_w]
       rfl
      refine pure_ (i := 2) (N := some 49) (v := ?_) (a' := ?_) #[ff_,tt_,tt_,ff_,ff_,ff_,ff_,ff_,ff_,ff_,ff_,ff_] rfl rfl (by kernel_rfl) (fun _ _ _ h => h) (Or.inl ⟨by rfl, ?_⟩) ?_ ?_
      rotate_left
      ·intro w'
       go_simp
       with_reducible rfl
      rotate_left
      ·simp only [Act.put, List.setIfInBounds_toArray, List.set_cons_zero, List.set_cons_succ, i64_w, i32_w]
       rfl
      refine pure_ (i := 3) (N := some 50) (v := ?_) (a' := ?_) #[ff_,tt_,tt_,tt_,ff_,ff_,ff_,ff_,ff_,ff_,ff_,ff_] rfl rfl (by kernel_rfl) (fun _ _ _ h => h) (Or.inl ⟨by rfl, ?_⟩) ?_ ?_
      rotate_left
      ·intro w'
       go_simp
       with_reducible rfl
      rotate_left
      ·simp only [Act.put, List.setIfInBounds_toArray, List.set_cons_zero, List.set_cons_succ, i64_w, i32_w]
       rfl
      refine take_ (i := 0) (N := some 47) (v := ?_) (a' := ?_) #[tt_,tt_,tt_,tt_,ff_,ff_,ff_,ff_,ff_,ff_,ff_,ff_] rfl rfl (by kernel_rfl) (fun _ _ _ h => h) (Or.inl ⟨by rfl, ?_⟩) hHeld ?_ ?_
      rotate_left
      ·rintro w' ⟨s0, s1, s2, s3, s4, s5⟩
       go_simp
       with_reducible rfl
      rotate_left
      ·simp only [Act.put, List.setIfInBounds_toArray, List.set_cons_zero, List.set_cons_succ, i64_w, i32_w]
       rfl
      refine take_ (i := 4) (N := some 51) (v := ?_) (a' := ?_) #[tt_,tt_,tt_,tt_,tt_,ff_,ff_,ff_,ff_,ff_,ff_,ff_] rfl rfl (by kernel_rfl) (fun _ _ _ h => h) (Or.inl ⟨by rfl, ?_⟩) hHeld ?_ ?_
      rotate_left
      ·rintro w' ⟨s0, s1, s2, s3, s4, s5⟩
       go_simp
       with_reducible rfl
      rotate_left
      ·simp only [Act.put, List.setIfInBounds_toArray, List.set_cons_zero, List.set_cons_succ, i64_w, i32_w]
       rfl
      refine join_ (σ := Nat) 2 #[tt_,tt_,tt_,tt_,tt_,tt_,tt_,tt_,tt_,tt_,ff_,ff_] (fun q_ => [(52, .tuple #[.agg #[.int .i64 0, .int .i64 0, .slice none 0 0], .int .i64 141]), (46, .tuple #[.agg #[.int .i64 0, .int .i64 0, .slice none 0 0], .int .i64 141]), (53, .agg #[.int .i64 0, .int .i64 0, .slice none 0 0]), (54, .int .i64 141), (9, .pointer (some ⟨q_, 0, none⟩))]) (fun q_ w' => w'.heap[q_]? = some (.cells #[.int .i64 0, .int .i64 0, .slice none 0 0] 25 (0, 0)) ∧ wd.heap.size ≤ q_ ∧ Below wd.heap.size wd w') ?_ ?_
      rotate_left
      ·intro hCont
       refine two_ (i := 5) (j := 9) (Ni := some 52) (Nj := some 9) #[tt_,tt_,tt_,tt_,tt_,tt_,ff_,ff_,ff_,ff_,ff_,ff_] #[tt_,tt_,tt_,tt_,tt_,ff_,ff_,ff_,ff_,tt_,ff_,ff_] rfl rfl rfl rfl (by kernel_rfl) (by decide) (by decide) (fun K hK => ?_) (fun K hK => ?_)
       ·skip
        refine goes_ Try.func32 (by kernel_rfl) rfl #[.agg #[.int .i64 (p.w : Int), .int .i64 (p.h : Int), .slice Ap np cp], .agg #[.int .i64 (q2.w : Int), .int .i64 (q2.h : Int), .slice A2 m c2]] (by rfl) rfl rfl (by (try simp only [List.map_toArray, List.map_cons, List.map_nil]); rfl) ?_
        refine (rJoin_nf p.w p.h q2.w q2.h Ap A2 np cp m c2 p.s q2.s _ (HPL2.out.below BR_.out) (HQL2.out.below BR_.out) HPO.out HQO.out HNF.out).mono ?_
        rintro e w_5 ⟨rfl, hb⟩
        refine ⟨_, rfl, ?_⟩
        have BR_5 := Aside0.mk (below_step BR_.out hb)
        clear hb
        refine hK.out _ _ ⟨(blk_cell (blk_below ZD.out BR_5.out) 0).trans rfl, (blk_cell (blk_below ZD.out BR_5.out) 1).trans rfl, (blk_cell (blk_below ZD.out BR_5.out) 2).trans rfl, pw_cell_below BR_5.out Y0.out, pw_cell_below BR_5.out Y1.out, pw_cell_below BR_5.out Y2.out⟩ (fun hHeld => ?_)
        clear hK K
        refine norm_ (a' := ?_) ?_ ?_
        rotate_left
        ·show Act.put _ (some 52) _ = _
         simp only [Act.put, List.setIfInBounds_toArray, List.set_cons_zero, List.set_cons_succ, i64_w, i32_w]
         rfl
        refine pure_ (i := 6) (N := some 46) (v := ?_) (a' := ?_) #[tt_,tt_,tt_,tt_,tt_,tt_,tt_,ff_,ff_,ff_,ff_,ff_] rfl rfl (by kernel_rfl) (fun _ _ _ h => h) (Or.inl ⟨by rfl, ?_⟩) ?_ ?_
        rotate_left
        ·intro w'
         go_simp
         with_reducible rfl
        rotate_left
        ·simp only [Act.put, List.setIfInBounds_toArray, List.set_cons_zero, List.set_cons_succ, i64_w, i32_w]
         rfl
        refine pure_ (i := 7) (N := some 53) (v := ?_) (a' := ?_) #[tt_,tt_,tt_,tt_,tt_,tt_,tt_,tt_,ff_,ff_,ff_,ff_] rfl rfl (by kernel_rfl) (fun _ _ _ h => h) (Or.inl ⟨by rfl, ?_⟩) ?_ ?_
        rotate_left
        ·intro w'
         go_simp
         with_reducible rfl
        rotate_left
        ·simp only [Act.put, List.setIfInBounds_toArray, List.set_cons_zero, List.set_cons_succ, i64_w, i32_w]
         rfl
        refine pure_ (i := 8) (N := some 54) (v := ?_) (a' := ?_) #[tt_,tt_,tt_,tt_,tt_,tt_,tt_,tt_,tt_,ff_,ff_,ff_] rfl rfl (by kernel_rfl) (fun _ _ _ h => h) (Or.inl ⟨by rfl, ?_⟩) ?_ ?_
        rotate_left
        ·intro w'
         go_simp
         with_reducible rfl
        rotate_left
        ·simp only [Act.put, List.setIfInBounds_toArray, List.set_cons_zero, List.set_cons_succ, i64_w, i32_w]
         rfl
        refine one_ (i := 9) (N := some 9) #[tt_,tt_,tt_,tt_,tt_,tt_,tt_,tt_,tt_,tt_,ff_,ff_] rfl rfl (by kernel_rfl) (by decide) (fun K hK => ?_)
        refine alloc_step (cs := #[.int .i64 0, .int .i64 0, .slice none 0 0]) (t := 25) (by rfl) rfl (by first | (go_simp; done) | (go_simp; rfl)) ?_
        intro g9 hg17
        have BR_5_9 := Aside0.mk (below_alloc BR_5.out (.cells #[.int .i64 0, .int .i64 0, .slice none 0 0] 25 (0, 0)))
        have Z_5_9 := Aside0.mk (blk_new w_5 (.cells #[.int .i64 0, .int .i64 0, .slice none 0 0] 25 (0, 0)))
        rw [← hg17] at Z_5_9
        have GE := Aside0.mk (show wd.heap.size ≤ g9 by rw [hg17]; exact below_size BR_5.out)
        clear hg17
        generalize w_5.alloc (.cells #[.int .i64 0, .int .i64 0, .slice none 0 0] 25 (0, 0)) = w_5_9 at *
        refine hK.out _ _ ⟨(blk_cell (blk_below ZD.out BR_5_9.out) 0).trans rfl, (blk_cell (blk_below ZD.out BR_5_9.out) 1).trans rfl, (blk_cell (blk_below ZD.out BR_5_9.out) 2).trans rfl, pw_cell_below BR_5_9.out Y0.out, pw_cell_below BR_5_9.out Y1.out, pw_cell_below BR_5_9.out Y2.out⟩ (fun hHeld => ?_)
        clear hK K
        refine norm_ (a' := ?_) ?_ ?_
        rotate_left
        ·show Act.put _ (some 9) _ = _
         simp only [Act.put, List.setIfInBounds_toArray, List.set_cons_zero, List.set_cons_succ, i64_w, i32_w]
         rfl
        exact norm_ (by rfl) (hCont g9 _ ⟨Z_5_9.out, GE.out, BR_5_9.out⟩)
       ·skip
        refine alloc_step (cs := #[.int .i64 0, .int .i64 0, .slice none 0 0]) (t := 25) (by rfl) rfl (by first | (go_simp; done) | (go_simp; rfl)) ?_
        intro g9 hg17
        have BR_9 := Aside0.mk (below_alloc BR_.out (.cells #[.int .i64 0, .int .i64 0, .slice none 0 0] 25 (0, 0)))
        have Z_9 := Aside0.mk (blk_new wd (.cells #[.int .i64 0, .int .i64 0, .slice none 0 0] 25 (0, 0)))
        rw [← hg17] at Z_9
        have GE := Aside0.mk (show wd.heap.size ≤ g9 by rw [hg17]; exact below_size BR_.out)
        clear hg17
        generalize wd.alloc (.cells #[.int .i64 0, .int .i64 0, .slice none 0 0] 25 (0, 0)) = w_9 at *
        refine hK.out _ _ ⟨(blk_cell (blk_below ZD.out BR_9.out) 0).trans rfl, (blk_cell (blk_below ZD.out BR_9.out) 1).trans rfl, (blk_cell (blk_below ZD.out BR_9.out) 2).trans rfl, pw_cell_below BR_9.out Y0.out, pw_cell_below BR_9.out Y1.out, pw_cell_below BR_9.out Y2.out⟩ (fun hHeld => ?_)
        clear hK K
        refine norm_ (a' := ?_) ?_ ?_
        rotate_left
        ·show Act.put _ (some 9) _ = _
         simp only [Act.put, List.setIfInBounds_toArray, List.set_cons_zero, List.set_cons_succ, i64_w, i32_w]
         rfl
        refine one_ (i := 5) (N := some 52) #[tt_,tt_,tt_,tt_,tt_,tt_,ff_,ff_,ff_,tt_,ff_,ff_] rfl rfl (by kernel_rfl) (by decide) (fun K hK => ?_)
        refine goes_ Try.func32 (by kernel_rfl) rfl #[.agg #[.int .i64 (p.w : Int), .int .i64 (p.h : Int), .slice Ap np cp], .agg #[.int .i64 (q2.w : Int), .int .i64 (q2.h : Int), .slice A2 m c2]] (by rfl) rfl rfl (by (try simp only [List.map_toArray, List.map_cons, List.map_nil]); rfl) ?_
        refine (rJoin_nf p.w p.h q2.w q2.h Ap A2 np cp m c2 p.s q2.s _ (HPL2.out.below BR_9.out) (HQL2.out.below BR_9.out) HPO.out HQO.out HNF.out).mono ?_
        rintro e w_9_5 ⟨rfl, hb⟩
        refine ⟨_, rfl, ?_⟩
        have BR_9_5 := Aside0.mk (below_step BR_9.out hb)
        have Z_9_5 := Aside0.mk (blk_below Z_9.out hb)
        clear hb
        refine hK.out _ _ ⟨(blk_cell (blk_below ZD.out BR_9_5.out) 0).trans rfl, (blk_cell (blk_below ZD.out BR_9_5.out) 1).trans rfl, (blk_cell (blk_below ZD.out BR_9_5.out) 2).trans rfl, pw_cell_below BR_9_5.out Y0.out, pw_cell_below BR_9_5.out Y1.out, pw_cell_below BR_9_5.out Y2.out⟩ (fun hHeld => ?_)
        clear hK K
        refine norm_ (a' := ?_) ?_ ?_
        rotate_left
        ·show Act.put _ (some 52) _ = _
         simp only [Act.put, List.setIfInBounds_toArray, List.set_cons_zero, List.set_cons_succ, i64_w, i32_w]
         rfl
        refine pure_ (i := 6) (N := some 46) (v := ?_) (a' := ?_) #[tt_,tt_,tt_,tt_,tt_,tt_,tt_,ff_,ff_,tt_,ff_,ff_] rfl rfl (by kernel_rfl) (fun _ _ _ h => h) (Or.inl ⟨by rfl, ?_⟩) ?_ ?_
        rotate_left
        ·intro w'
         go_simp
         with_reducible rfl
        rotate_left
        ·simp only [Act.put, List.setIfInBounds_toArray, List.set_cons_zero, List.set_cons_succ, i64_w, i32_w]
         rfl
        refine pure_ (i := 7) (N := some 53) (v := ?_) (a' := ?_) #[tt_,tt_,tt_,tt_,tt_,tt_,tt_,tt_,ff_,tt_,ff_,ff_] rfl rfl (by kernel_rfl) (fun _ _ _ h => h) (Or.inl ⟨by rfl, ?_⟩) ?_ ?_
        rotate_left
        ·intro w'
         go_simp
         with_reducible rfl
        rotate_left
        ·simp only [Act.put, List.setIfInBounds_toArray, List.set_cons_zero, List.set_cons_succ, i64_w, i32_w]
         rfl
        refine pure_ (i := 8) (N := some 54) (v := ?_) (a' := ?_) #[tt_,tt_,tt_,tt_,tt_,tt_,tt_,tt_,tt_,tt_,ff_,ff_] rfl rfl (by kernel_rfl) (fun _ _ _ h => h) (Or.inl ⟨by rfl, ?_⟩) ?_ ?_
        rotate_left
        ·intro w'
         go_simp
         with_reducible rfl
        rotate_left
        ·simp only [Act.put, List.setIfInBounds_toArray, List.set_cons_zero, List.set_cons_succ, i64_w, i32_w]
         rfl
        exact norm_ (by rfl) (hCont g9 _ ⟨Z_9_5.out, GE.out, BR_9_5.out⟩)
      rintro g9 w50 ⟨hZ, hge, hB⟩
      have Z50 := Aside0.mk (hZ)
      have GE := Aside0.mk (hge)
      have BR50 := Aside0.mk (hB)
      have hHeld : w50.cell? ⟨g7, 0, none⟩ = some (.int .i64 (p.w : Int)) ∧ w50.cell? ⟨g7, 1, none⟩ = some (.int .i64 (p.h : Int)) ∧ w50.cell? ⟨g7, 2, none⟩ = some (.slice Ap np cp) ∧ w50.cell? aq = some (.int .i64 (q2.w : Int)) ∧ w50.cell? ⟨aq.block, aq.off + 1, none⟩ = some (.int .i64 (q2.h : Int)) ∧ w50.cell? ⟨aq.block, aq.off + 2, none⟩ = some (.slice A2 m c2) := ⟨(blk_cell (blk_below ZD.out BR50.out) 0).trans rfl, (blk_cell (blk_below ZD.out BR50.out) 1).trans rfl, (blk_cell (blk_below ZD.out BR50.out) 2).trans rfl, pw_cell_below BR50.out Y0.out, pw_cell_below BR50.out Y1.out, pw_cell_below BR50.out Y2.out⟩
      clear hZ hge hB
      refine norm_ (a' := ?_) ?_ ?_
      rotate_left
      ·simp only [YtodlgdpkadkjjaaW.PrintLast.putAll, Act.put, List.setIfInBounds_toArray, List.set_cons_zero, List.set_cons_succ]
       rfl
      refine last_ (i := 10) (N := none) #[tt_,tt_,tt_,tt_,tt_,tt_,tt_,tt_,tt_,tt_,tt_,ff_] rfl rfl (by kernel_rfl) (by decide) (fun K hK => ?_)
      refine storeP_step (by rfl) rfl rfl g9 0 0 none 0 0 _ _ _ rfl rfl Z50.out ?_
      intro w51 hm_ hst_ hbl_
      have Z51 := Aside0.mk (hm_)
      have BR51 := Aside0.mk (BR50.out.trans (hbl_ _ GE.out))
      clear hm_ hst_ hbl_
      refine hK.out _ _ ?_
      clear hK K
      refine pure_ (i := 11) (N := some 10) (v := ?_) (a' := ?_) #[tt_,tt_,tt_,tt_,tt_,tt_,tt_,tt_,tt_,tt_,tt_,tt_] rfl rfl (by kernel_rfl) (fun _ _ _ h => h) (Or.inl ⟨by rfl, ?_⟩) ?_ ?_
      rotate_left
      ·intro w'
       go_simp
       with_reducible rfl
      rotate_left
      ·simp only [Act.put, List.setIfInBounds_toArray, List.set_cons_zero, List.set_cons_succ, i64_w, i32_w]
       rfl
      refine done_ (by kernel_rfl) ?_
      have RE := Aside0.mk (blk_below RD.out BR51.out)
      have BE := Aside0.mk (below_step BD.out BR51.out)
      go_wp2_with (first | ((with_reducible refine gate_store (p := 2) rfl ?_); refine storeP_event rfl rfl rfl gR 0 0 none 0 0 _ _ _ rfl rfl RE.out ?_; intro wz hm_ hst_ hbl_; have Rz := Aside0.mk (hm_); have Bz := Aside0.mk (BE.out.trans (hbl_ _ GR.out)); clear hm_ hst_ hbl_))
      refine bodyPost_ret (results_ct rfl _ _ gR 25 #[.int .i64 0, .int .i64 0, .slice none 0 0] (0, 0) _ rfl Rz.out Try.underlying25 rfl (by kernel_rfl)) rfl ?_
      exact ⟨fun h9 => (by obtain ⟨k', h1, h2⟩ := HKX.out; exact absurd (h9 k' h1) h2), fun _ => rfl, Bz.out⟩
    ·obtain rfl : k = j := by omega
     obtain rfl : z = -1 := by omega
     have HK0 : Aside0 (∀ k', k' < k + 1 → (rsts ps k').1 = 0) := ⟨fun k' hk' => by
      by_cases h9 : k' < k
      ·exact HK.out.2 k' h9
      ·obtain rfl : k' = k := by omega
       rw [HK.out.1]⟩
     have p0 := (blk_cell ZI.out 0).trans rfl
     have p1 := (blk_cell ZI.out 1).trans rfl
     have p2 := (blk_cell ZI.out 2).trans rfl
     clear ZI hz
     go_wp2_with (first | ((with_reducible refine gate_store (p := 2) rfl ?_); refine storeP_event rfl rfl rfl gR (p.w : Int) (p.h : Int) Ap np cp _ _ _ rfl rfl RI.out ?_; intro w13 hm_ hst_ hbl_; have R13 := Aside0.mk (hm_); have B13 := Aside0.mk (BI.out.trans (hbl_ _ GR.out)); have V13 := Aside0.mk (Kd.R_mono (Kd.R_move (Kd.R_types VI.out RI.out (by decide)) (fun k hk => hst_ k hk.2)) (fun _ _ => trivial)); clear hm_ hst_ hbl_))
     refine bodyPost_ret (results_ct rfl _ _ gR 25 #[.int .i64 (p.w : Int), .int .i64 (p.h : Int), .slice Ap np cp] (0, 0) _ rfl R13.out Try.underlying25 rfl (by kernel_rfl)) rfl ?_
     rw [HJ1.out, HK.out.1]
     exact ⟨fun _ => ⟨_, rfl, V13.out⟩, fun ⟨k', h1, h2⟩ => absurd (HK0.out k' h1) h2, B13.out⟩
end Go.Proofs.Ytodlgdpkadkjjaa.A
end
section
set_option linter.unusedVariables false
set_option linter.unusedSimpArgs false
namespace Go.Proofs.Ytodlgdpkadkjjaa.A
open Go.RowKit Go.Shelf Go.Proofs.YtodlgdpkadkjjaaW.PrintWords Go.Proofs.YtodlgdpkadkjjaaW.PrintLast Go.Proofs.YtodlgdpkadkjjaaW.PrintMore Go.Proofs.Ytodlgdpkadkjjaa.PPyramidLevels
theorem len_bound (l : List S25) : ∃ M, ∀ x ∈ l, x.f2.length < M := by
 induction l with
 | nil => exact ⟨0, fun x h => by cases h⟩
 | cons a t ih =>
  obtain ⟨M, h⟩ := ih
  refine ⟨M + a.f2.length + 1, fun x hx => ?_⟩
  rcases List.mem_cons.mp hx with rfl | hx
  ·omega
  ·have := h x hx; omega
theorem rd_mem {l : List S25} {i : Nat} (hi : i < l.length) : rd_T25 l (i : Int) ∈ l := by
 unfold rd_T25
 rw [Int.toNat_natCast, List.getD_eq_getElem?_getD, List.getElem?_eq_getElem hi]
 exact List.getElem_mem hi
theorem planes_step (l : List S25) (k j : Nat) (hj : j < l.length) (hk : (rd_T25 l (j : Int)).f2.length < k) (hb : (rd_T25 l (j : Int)).f2.length < 4611686018427387904) (hw : wrap64 ((j : Int) + 1) = ((j + 1 : Nat) : Int)) : halidelaw14_planes.l0 (k + 1) l l (j : Int) = halidelaw14_planes.l0 k l l ((j + 1 : Nat) : Int) := by
 have h1 : (j : Int) < (l.length : Int) := by omega
 have h2 : (0 : Int) ≤ (j : Int) := by omega
 rw [halidelaw14_planes.l0, if_pos h1, if_pos h2, if_pos h1, plane_f k hk hb, hw]
 simp
theorem planes_end (l : List S25) (k : Nat) : halidelaw14_planes.l0 (k + 1) l l (l.length : Int) = some true := by
 rw [halidelaw14_planes.l0, if_neg (Int.lt_irrefl _)]
theorem planes_f (l : List S25) (M : Nat) (hM : ∀ x ∈ l, x.f2.length < M) (hb : ∀ x ∈ l, x.f2.length < 4611686018427387904) (hl : l.length < 4611686018427387904) : ∀ d j, j + d = l.length → halidelaw14_planes.l0 (M + d + 1) l l (j : Int) = some true := by
 intro d
 induction d with
 | zero => intro j hj; rw [Nat.add_zero] at hj; rw [hj]; exact planes_end l _
 | succ d ih =>
  intro j hj
  have hm := rd_mem (l := l) (i := j) (by omega)
  have h1 := planes_step l (M + d + 1) j (by omega) (by have := hM _ hm; omega) (hb _ hm) (w64 (by omega) (by omega))
  have h2 := ih (j + 1) (by omega)
  rw [h2] at h1
  exact h1
theorem samePs {l : List S25} {A A2 : Option Addr} {n c c2 : Nat} {w : World} (h : Kd.C k25 w A n l) (h1 : n ≤ c) (h2 : Kd.C k25 w A2 n l) (h3 : n ≤ c2) (hb : ∀ x ∈ l, x.f2.length < 4611686018427387904) (hn : n < 4611686018427387904) :
    Calls Try.prog 38 #[.slice A n c, .slice A2 n c2] w fun e w' => e = .returned (.bool true) ∧ Below w.heap.size w w' := by
 have hl : l.length = n := Kd.C_len h
 subst hl
 obtain ⟨M, hM⟩ := len_bound l
 refine (halidelaw14_planes.calls (M + l.length + 1) A c l A2 c2 l true w h h1 h2 h3 ?_).mono (fun e w' h => h)
 unfold halidelaw14_planes.f
 rw [if_pos rfl]
 exact planes_f l M hM hb hn l.length 0 (Nat.zero_add _)
theorem Ow.of_own {w : World} {B : Nat} {ok : Nat → Prop} {v : Value} {xs : List Nat} (h : (nat .u32).R 50 w B ok v xs) : Ow .u32 50 w B v xs := Ow.of_R (Kd.R_mono h (fun _ _ => trivial))
theorem pk_cells {W : World} {B : Nat} {ok : Nat → Prop} {ap : Addr} {n c : Nat} {es : List (Nat × Nat × Hd)} (H : pk.R 25 W B ok (.slice (some ap) n c) es) {k : Nat} (hk : k < es.length) :
    W.cell? (ap.add (k * 3)) = some (.int .i64 ((es[k]).1 : Int)) ∧ W.cell? ⟨(ap.add (k * 3)).block, (ap.add (k * 3)).off + 1, none⟩ = some (.int .i64 ((es[k]).2.1 : Int)) ∧ W.cell? ⟨(ap.add (k * 3)).block, (ap.add (k * 3)).off + 2, none⟩ = some (es[k]).2.2.v := by
 obtain ⟨e, _, hC⟩ := Kd.R_reads' H
 obtain ⟨cs, h1, h2, h3⟩ := Kd.R_get H (0, 0, (none, 0, 0)) (k : Int) (by omega) (by omega)
 have h4 : es.getD (k : Int).toNat (0, 0, (none, 0, 0)) = es[k] := by
  rw [Int.toNat_natCast, List.getD_eq_getElem?_getD, List.getElem?_eq_getElem hk, Option.getD_some]
 rw [h4] at h2
 obtain ⟨c0, c1, rfl, e0, ⟨c2, c3, rfl, e1, e3⟩⟩ := h2
 have e0' : c0 = [.int .i64 ((es[k]).1 : Int)] := e0
 have e1' : c2 = [.int .i64 ((es[k]).2.1 : Int)] := e1
 have e3' : c3 = [(es[k]).2.2.v] := e3
 subst e0' e1' e3'
 have hsz : pk.sz = 3 := rfl
 rw [hsz, Int.toNat_natCast] at h3
 exact ⟨h3 0 _ rfl, by rw [← add_field _ _ 1 (by omega)]; exact h3 1 _ rfl, by rw [← add_field _ _ 2 (by omega)]; exact h3 2 _ rfl⟩
set_option maxHeartbeats 4000000 in
set_option maxRecDepth 100000 in
theorem bookPlanes (g B Bn : Nat) (m : Int) (v : Value) (es : List (Nat × Nat × Hd)) (ss : List (List Nat)) (hs : List Hd) (ms : List Int) (w : World) (hK : BkSamples w g B hs ms) (hgB : g < B) (hBs : B ≤ w.heap.size) (H : PlsOwn Bn w v es ss) (hBn : B ≤ Bn) (hA : ∀ r, Bn ≤ r → Apart hs r) (hlen : hs.length + es.length ≤ 1000000) :
    Calls Try.prog 39 #[.pointer (some ⟨g, 0, none⟩), v, .int .i64 m] w fun e w' => e = .returned (.tuple #[]) ∧ (∃ hs' ms', BkSamples w' g B hs' ms' ∧ hs'.length = hs.length + es.length) ∧ But B g w w' := by
 have hu25 := Try.underlying25
 obtain ⟨A, c, rfl, _, _⟩ := Kd.R_reads H.row
 obtain ⟨n, hn⟩ : ∃ n, es.length = n := ⟨_, rfl⟩
 have HN := Aside0.mk hn
 have HROW : Aside0 (pk.R 25 w Bn (fun _ => True) (.slice A n c) es) := ⟨by rw [← hn]; exact Kd.R_mono H.row (fun _ _ => trivial)⟩
 have HP0 : Aside0 (∀ k (h1 : k < es.length), 0 ≤ k → Ow .u32 50 w Bn (es[k]).2.2.v (ss.getD k [])) := ⟨fun k h1 _ => Ow.of_own (H.pls k h1)⟩
 have HAP := Aside0.mk H.ap
 have HA0 : Aside0 (∀ k (h1 : k < es.length), 0 ≤ k → ∀ ad, (es[k]).2.2.1 = some ad → Apart hs ad.block) := ⟨fun k h1 _ => Ow.apart (A := (es[k]).2.2.1) (n := (es[k]).2.2.2.1) (c := (es[k]).2.2.2.2) (Ow.of_own (H.pls k h1)) hA⟩
 have HK0 := Aside0.mk hK
 have HLEN := Aside0.mk hlen
 rw [hn] at hlen ⊢
 clear hn hK H hA
 go_enter Try.func39, Try.ntmps39
 go_wp2
 go_loopw [6] (fun iv wr => ∃ (i : Nat) (hs1 : List Hd) (ms1 : List Int), i ≤ n ∧ iv = .int .i64 (i : Int) ∧ hs1.length = hs.length + i ∧ Aside0 (BkSamples wr g B hs1 ms1) ∧ Aside0 (pk.R 25 wr Bn (fun _ => True) (.slice A n c) es) ∧ Aside0 (∀ k (h1 : k < es.length), i ≤ k → Ow .u32 50 wr Bn (es[k]).2.2.v (ss.getD k [])) ∧ Aside0 (∀ k (h1 : k < es.length), i ≤ k → ∀ ad, (es[k]).2.2.1 = some ad → Apart hs1 ad.block) ∧ Aside0 (But B g w wr)) (fun iv _ => n - (intOf iv).toNat)
 case atStart => exact ⟨0, hs, ms, Nat.zero_le _, rfl, rfl, HK0, HROW, HP0, HA0, ⟨.refl _ _ _⟩⟩
 case round =>
  clear HK0 HROW HP0 HA0
  obtain ⟨i, hs1, ms1, hi, rfl, hhl, HK, HR, HP, HA, HT⟩ := hrel
  by_cases hlt : i < n
  ·have c1 : decide ((i : Int) < (n : Int)) = true := decide_eq_true (by omega)
   have i1 : ((i : Int) < (n : Int)) = True := eq_true (by omega)
   have hie : i < es.length := by rw [HN.out]; exact hlt
   obtain ⟨ap, c', hvv⟩ := R_slice1 HR.out (by rw [HN.out]; omega)
   have hA : A = some ap := by injection hvv
   clear hvv
   subst hA
   obtain ⟨y0, y1, y2⟩ := pk_cells HR.out hie
   obtain ⟨⟨a, b, A2, n2, c2⟩, hE⟩ : ∃ e, es[i] = e := ⟨_, rfl⟩
   obtain ⟨aq, haq⟩ : ∃ aq, ap.add (i * 3) = aq := ⟨_, rfl⟩
   obtain ⟨xs, hxs⟩ : ∃ xs, ss.getD i [] = xs := ⟨_, rfl⟩
   have hO := HP.out i hie (Nat.le_refl _)
   rw [hE, hxs] at hO
   have hA1 := HA.out i hie (Nat.le_refl _)
   rw [hE] at hA1 y0 y1 y2
   rw [haq] at y0 y1 y2
   have y0 : wr.cell? aq = some (.int .i64 (a : Int)) := y0
   have y1 : wr.cell? ⟨aq.block, aq.off + 1, none⟩ = some (.int .i64 (b : Int)) := y1
   have y2 : wr.cell? ⟨aq.block, aq.off + 2, none⟩ = some (.slice A2 n2 c2) := y2
   have HO : Aside0 (Ow .u32 50 wr Bn (.slice A2 n2 c2) xs) := ⟨hO⟩
   have HA1 : Aside0 (∀ ad, A2 = some ad → Apart hs1 ad.block) := ⟨hA1⟩
   have HLN : Aside0 (hs1.length ≤ 1000000) := ⟨by omega⟩
   have HFAR : Aside0 (∀ k (h1 : k < es.length), i + 1 ≤ k → Far A2 (es[k]).2.2.1) := ⟨fun k h1 hk a1 a2 ha1 ha2 he => by
    have h9 := HAP.out i k hie h1 (by omega) a1.block (by rw [hE]; show Value.ownBlock (.slice A2 n2 c2) = _; rw [ha1]; rfl)
    refine h9 ?_
    show Value.ownBlock (.slice (es[k]).2.2.1 _ _) = _
    rw [ha2, he]
    rfl⟩
   have HLT := Aside0.mk hlt
   have HHL := Aside0.mk hhl
   clear hO hA1 hE hxs hhl
   go_wp2_with (first | (go_at_call 19; refine (bookPlane g B Bn (a : Int) (b : Int) _ A2 n2 c2 hs1 ms1 _ xs HK.out hgB (Nat.le_trans hBs HT.out.size) HO.out hBn HA1.out HLN.out).mono ?_; rintro e w4 ⟨rfl, ⟨kd, hk⟩, ht, hz⟩; have K4 := Aside0.mk (hk); have T4 := Aside0.mk (HT.out.trans ht); have Z4 := Aside0.mk (hz); clear hk ht hz))
   go_roundw
   case measure => simp [intOf]; have := HLT.out; omega
   case rel => first | exact ⟨i + 1, hs1 ++ [(A2, kd, kd)], _, HLT.out, by go_num, by have := HHL.out; simp; omega, K4, ⟨Kd.R_mono (pk_move (pk_self HR.out) (fun k hk => (by
       obtain ⟨cells, hc⟩ := own_typed (Kd.R_own HR.out).choose_spec k hk
       exact Z4.out k cells 25 hc (.inl rfl)))) (fun _ _ => trivial)⟩, ⟨fun k h1 hk => Ow.keep (A := (es[k]).2.2.1) (n := (es[k]).2.2.2.1) (c := (es[k]).2.2.2.2) (HP.out k h1 (by omega)) Z4.out (HFAR.out k h1 hk)⟩, ⟨fun k h1 hk ad hA => (HA.out k h1 (by omega) ad hA).snoc (fun a1 ha1 => HFAR.out k h1 hk a1 ad ha1 hA)⟩, T4⟩ | ((repeat apply Exists.intro); exact ⟨⟨i + 1, hs1 ++ [(A2, kd, kd)], _, HLT.out, by go_num, by have := HHL.out; simp; omega, K4, ⟨Kd.R_mono (pk_move (pk_self HR.out) (fun k hk => (by
       obtain ⟨cells, hc⟩ := own_typed (Kd.R_own HR.out).choose_spec k hk
       exact Z4.out k cells 25 hc (.inl rfl)))) (fun _ _ => trivial)⟩, ⟨fun k h1 hk => Ow.keep (A := (es[k]).2.2.1) (n := (es[k]).2.2.2.1) (c := (es[k]).2.2.2.2) (HP.out k h1 (by omega)) Z4.out (HFAR.out k h1 hk)⟩, ⟨fun k h1 hk ad hA => (HA.out k h1 (by omega) ad hA).snoc (fun a1 ha1 => HFAR.out k h1 hk a1 ad ha1 hA)⟩, T4⟩, rfl⟩)
  ·obtain rfl : n = i := by omega
   have c1 : decide ((n : Int) < (n : Int)) = false := decide_eq_false (by omega)
   go_wp2
   go_end0
   exact ⟨rfl, ⟨_, _, HK.out, hhl⟩, HT.out⟩
end Go.Proofs.Ytodlgdpkadkjjaa.A
end
section
set_option linter.unusedVariables false
set_option linter.unusedSimpArgs false
namespace Go.Proofs.Ytodlgdpkadkjjaa.A
open Go.RowKit Go.Shelf Go.Proofs.YtodlgdpkadkjjaaW.PrintWords Go.Proofs.YtodlgdpkadkjjaaW.PrintLast Go.Proofs.YtodlgdpkadkjjaaW.PrintMore Go.Proofs.Ytodlgdpkadkjjaa.PPyramidLevels
section
variable {P : Program} {ops : Array Oper} {Q : Exit → Act → World → Prop} {o : Oper} {rest : List Oper} {a : Act}
theorem makeN_event {W : World} (hgd : o.guard = none) {N : Tmp} (hN : o.dst = some N) (t e : TypeId) (x y : Operand) (ho : o.op = .makeSlice t x y) (l c : Nat) (hx : a.eval x = .int .i64 (l : Int)) (hy : a.eval y = .int .i64 (c : Int)) (hlc : l ≤ c)
    (ht : P.underlying t = some (.slice e)) (z : Value) (size bytes : Nat) (hinfo : (P.info? e).map (fun i => (i.zero, i.size, i.bytes)) = some (some z, size, bytes)) (hn : c ≤ 9223372036854775807) (hl : bytes * c ≤ 281474976710656)
    (h : ∀ g, g = W.heap.size → ∀ w1, w1.heap[g]? = some (.cells (madeCells z.cells (c * size)) e (0, 0)) → Below W.heap.size W w1 → wpList P ops Q rest (a.put o.dst (.slice (some ⟨g, 0, none⟩) l c)) w1) : wpList P ops Q (o :: rest) a W := by
 obtain ⟨i0, hi, hzz⟩ := Option.map_eq_some_iff.1 hinfo
 simp only [Prod.mk.injEq] at hzz
 obtain ⟨hz0, hz1, hz2⟩ := hzz
 have hr := run_make (P := P) W t e i0 z ht hi hz0 .i64 .i64 (l : Int) (c : Int) (by omega) (by omega) (by rw [hz2, ← Int.natCast_mul]; omega) (by omega)
 simp only [Int.toNat_natCast, hz1] at hr
 exact Kd.event_run hgd (by simp [execOp, ho, hx, hy, hr]) (h _ rfl _ (blk_new W _) (below_alloc (Below.refl _ _) _))
end
/-- a plane of a list that is lent, at its place -/
def LPl (w : World) (B : Nat) (l : List S25) (cs : Array Value) (k : Nat) : Prop := ∃ (r c : Nat) (cl : Array Value), cs[k * 3]? = some (.int .i64 (rd_T25 l (k : Int)).f0) ∧ cs[k * 3 + 1]? = some (.int .i64 (rd_T25 l (k : Int)).f1) ∧ cs[k * 3 + 2]? = some (.slice (some ⟨r, 0, none⟩) (rd_T25 l (k : Int)).f2.length c) ∧ B ≤ r ∧ w.heap[r]? = some (.cells cl 50 (0, 0)) ∧ (rd_T25 l (k : Int)).f2.length ≤ c ∧ (Kd.int .u32).C w (some ⟨r, 0, none⟩) (rd_T25 l (k : Int)).f2.length (rd_T25 l (k : Int)).f2
theorem C_ati {w w1 : World} {r n : Nat} {xs : List Int} (h : (Kd.int .u32).C w (some ⟨r, 0, none⟩) n xs) (hk : w1.heap[r]? = w.heap[r]?) : (Kd.int .u32).C w1 (some ⟨r, 0, none⟩) n xs := by
 obtain ⟨h1, h2, h3⟩ := Kd.reads_of_C (d := 0) h
 refine Kd.C_of_reads (d := 0) ⟨h1, h2, fun hp => ?_⟩
 obtain ⟨ad, he, hc⟩ := h3 hp
 injection he with he
 subst he
 refine ⟨_, rfl, fun j hj => ?_⟩
 rw [← hc j hj, add_plain]
 unfold World.cell?
 rw [hk]
theorem LPl.move {w w1 : World} {B k : Nat} {l : List S25} {cs cs1 : Array Value} (h : LPl w B l cs k) (hc : ∀ j, j < 3 → cs1[k * 3 + j]? = cs[k * 3 + j]?) (hm : ∀ (r : Nat) (cl : Array Value), B ≤ r → w.heap[r]? = some (Obj.cells cl 50 (0, 0)) → w1.heap[r]? = w.heap[r]?) : LPl w1 B l cs1 k := by
 obtain ⟨r, c, cl, h1, h2, h3, h4, h5, h6, h7⟩ := h
 exact ⟨r, c, cl, (hc 0 (by omega)).trans h1, (hc 1 (by omega)).trans h2, (hc 2 (by omega)).trans h3, h4, (hm r cl h4 h5).trans h5, h6, C_ati h7 (hm r cl h4 h5)⟩
/-- a list of planes that is lent -/
def LentL (w : World) (ro B : Nat) (l : List S25) (cs : Array Value) : Prop := w.heap[ro]? = some (.cells cs 25 (0, 0)) ∧ ∀ k, k < l.length → LPl w B l cs k
theorem LentL.C {w : World} {ro B : Nat} {l : List S25} {cs : Array Value} (h : LentL w ro B l cs) (hl : l.length ≤ 9223372036854775807) : Kd.C k25 w (some ⟨ro, 0, none⟩) l.length l := by
 refine ⟨rfl, hl, fun _ => ⟨_, rfl, fun j p hj => ?_⟩⟩
 obtain ⟨hjl, hjp⟩ := List.getElem?_eq_some_iff.mp hj
 obtain ⟨r, c, cl, h1, h2, h3, h4, h5, h6, h7⟩ := h.2 j hjl
 have e : rd_T25 l (j : Int) = p := by
  unfold rd_T25
  rw [Int.toNat_natCast, List.getD_eq_getElem?_getD, hj]; rfl
 rw [e] at h1 h2 h3 h6 h7
 refine ⟨[.int .i64 p.f0, .int .i64 p.f1, .slice (some ⟨r, 0, none⟩) p.f2.length c], rfl, k25_mk w p h6 h7, fun i u hu => ?_⟩
 have hz : k25.sz = 3 := rfl
 rw [hz, add_plain, blk_cell h.1]
 rcases i with _ | _ | _ | i
 ·exact h1.trans hu
 ·exact h2.trans hu
 ·exact h3.trans hu
 ·simp at hu
theorem LentL.move {w w1 : World} {ro B : Nat} {l : List S25} {cs : Array Value} (h : LentL w ro B l cs) (hm : ∀ (r : Nat) (cl : Array Value) (t : TypeId), w.heap[r]? = some (Obj.cells cl t (0, 0)) → t = 50 ∨ t = 25 → B ≤ r ∨ r = ro → w1.heap[r]? = w.heap[r]?) : LentL w1 ro B l cs :=
 ⟨(hm ro cs 25 h.1 (.inr rfl) (.inr rfl)).trans h.1, fun k hk => (h.2 k hk).move (fun _ _ => rfl) (fun r cl hr hc => hm r cl 50 hc (.inl rfl) (.inl hr))⟩
theorem LentL.below {w w1 : World} {ro B : Nat} {l : List S25} {cs : Array Value} (h : LentL w ro B l cs) (hb : Below w.heap.size w w1) : LentL w1 ro B l cs := h.move fun r cl t hr _ _ => hb.block r (blk_lt hr)
theorem cellsome {w : World} {r : Nat} {cs : Array Value} {t : TypeId} (h : w.heap[r]? = some (.cells cs t (0, 0))) (j : Nat) (hj : j < cs.size) : w.cell? ⟨r, j, none⟩ = some cs[j]! := by
 rw [blk_cell h j, Array.getElem?_eq_getElem hj, getElem!_pos cs j hj]
set_option maxHeartbeats 4000000 in
set_option maxRecDepth 100000 in
theorem roomPlanes (g B : Nat) (A : Option Addr) (n c : Nat) (l : List S25) (hs ws : List Hd) (w : World) (hK : RmS w g B hs ws) (hgB : g < B) (hBs : B ≤ w.heap.size) (hC : ∀ wr, But B g w wr → Kd.C k25 wr A n l) (hn : n * 40 ≤ 140737488351232) (hp : ∀ i, i < n → ∃ p : List Nat, (rd_T25 l (i : Int)).f2 = ints p ∧ p.length * 4 ≤ 140737488351232) (hlen : hs.length + n ≤ 4000000000000) :
    Calls Try.prog 34 #[.pointer (some ⟨g, 0, none⟩), .slice A n c] w fun e w' => ∃ ro co cs hs' ws', e = .returned (.slice (some ⟨ro, 0, none⟩) n co) ∧ n ≤ co ∧ w.heap.size ≤ ro ∧ LentL w' ro w.heap.size l cs ∧ RmS w' g B hs' ws' ∧ But B g w w' ∧ Keeps w w' := by
 have hu25 := Try.underlying25
 have HK := Aside0.mk hK
 have HC := Aside0.mk hC
 have HP := Aside0.mk hp
 have HLEN : Aside0 (l.length = n) := ⟨Kd.C_len (hC w (.refl _ _ _))⟩
 clear hK hC hp
 go_enter Try.func34, Try.ntmps34
 go_wp2_with (first | ((with_reducible refine gate_dst (N := 12) rfl ?_); refine makeN_event rfl rfl 67 25 _ _ rfl n (n + 5) rfl rfl (by omega) Try.underlying67 (.agg #[.int .i64 0, .int .i64 0, .slice none 0 0]) 3 40 infoPl (by omega) (by omega) ?_; intro ro hg_ w1 hm_ hb_; have O1 := Aside0.mk (hm_); have B1 := Aside0.mk (hb_); have GO := Aside0.mk (show w.heap.size ≤ ro by rw [hg_]; exact Nat.le_refl _); clear hm_ hb_ hg_))
 have HZ0 : Aside0 ((madeCells (Value.agg #[.int .i64 0, .int .i64 0, .slice none 0 0]).cells ((n + 5) * 3)).size = (n + 5) * 3) := ⟨size_madeCells _ _⟩
 obtain ⟨cs0, hcs0⟩ : ∃ cs0, madeCells (Value.agg #[.int .i64 0, .int .i64 0, .slice none 0 0]).cells ((n + 5) * 3) = cs0 := ⟨_, rfl⟩
 rw [hcs0] at O1 HZ0
 clear hcs0
 have RM1 : Aside0 (RmS w1 g B hs ws) := ⟨HK.out.below B1.out⟩
 have T1 : Aside0 (But B g w w1) := ⟨.of_below (B1.out.mono hBs)⟩
 have Q1 : Aside0 (Keeps w w1) := ⟨.below B1.out⟩
 go_loopw [6] (fun iv wr => ∃ (i : Nat) (cs : Array Value) (hs1 ws1 : List Hd), i ≤ n ∧ iv = .int .i64 (i : Int) ∧ hs1.length = hs.length + i ∧ Aside0 (cs.size = (n + 5) * 3) ∧ Aside0 (wr.heap[ro]? = some (.cells cs 25 (0, 0))) ∧ Aside0 (∀ k, k < i → LPl wr w.heap.size l cs k) ∧ Aside0 (RmS wr g B hs1 ws1) ∧ Aside0 (But B g w wr) ∧ Aside0 (Keeps w wr)) (fun iv _ => n - (intOf iv).toNat)
 case atStart => exact ⟨0, cs0, hs, ws, Nat.zero_le _, rfl, rfl, HZ0, O1, ⟨fun k hk => absurd hk (Nat.not_lt_zero _)⟩, RM1, T1, Q1⟩
 case round =>
  clear HZ0 O1 RM1 T1 Q1
  obtain ⟨i, cs, hs1, ws1, hi, rfl, hhl, HZ, HO, HL, HRM, HT, HQ⟩ := hrel
  by_cases hlt : i < n
  ·have c1 : decide ((i : Int) < (n : Int)) = true := decide_eq_true (by omega)
   have i1 : ((i : Int) < (n : Int)) = True := eq_true (by omega)
   obtain ⟨ad, aq, A2, c2, rfl, haq, y0, y1, y2, hc2, hC2⟩ := cells_T25 (HC.out wr HT.out) i hlt
   obtain ⟨p, hp, hpb⟩ := HP.out i hlt
   obtain ⟨x, hx⟩ : ∃ x, (rd_T25 l (i : Int)).f0 = x := ⟨_, rfl⟩
   obtain ⟨y, hy⟩ : ∃ y, (rd_T25 l (i : Int)).f1 = y := ⟨_, rfl⟩
   obtain ⟨m, hm⟩ : ∃ m, (rd_T25 l (i : Int)).f2.length = m := ⟨_, rfl⟩
   have hpm : p.length = m := by rw [← hm, hp, ints_length]
   have HPP : Aside0 (PL wr A2 m c2 p) := ⟨by rw [hm, hp] at hC2; rw [hm] at hc2; exact ⟨C_nats hC2, hc2, hpm⟩⟩
   have HB4 : Aside0 (m * 4 ≤ 140737488351232) := ⟨by rw [← hpm]; exact hpb⟩
   have HLN : Aside0 (hs1.length ≤ 4000000000000) := ⟨by omega⟩
   have HXE : Aside0 ((rd_T25 l (i : Int)).f0 = x ∧ (rd_T25 l (i : Int)).f1 = y ∧ (rd_T25 l (i : Int)).f2 = ints p ∧ (rd_T25 l (i : Int)).f2.length = m) := ⟨⟨hx, hy, hp, hm⟩⟩
   rw [hx] at y0
   rw [hy] at y1
   rw [hm] at y2
   have HLT := Aside0.mk hlt
   have HHL := Aside0.mk hhl
   clear hc2 hC2 hp hpb hx hy hm hpm hhl
   go_wp2_with (first | (go_at_call 13; refine (roomPlane g B x y A2 m c2 p hs1 ws1 _ HRM.out hgB (Nat.le_trans hBs HT.out.size) HPP.out HB4.out HLN.out).mono ?_; rintro e w4 ⟨r, c3, hs4, ws4, rfl, hL, hr, hK, hl, hT, hQ, cl, hc⟩; have L4 := Aside0.mk (hL); have HR4 := Aside0.mk (hr); have RM4 := Aside0.mk (hK); have HL4 := Aside0.mk (hl); have T4 := Aside0.mk (HT.out.trans hT); have Q4 := Aside0.mk (hQ); have KC4 := Aside0.mk (hc); have O4 := Aside0.mk ((hQ ro _ _ HO.out (.inr rfl)).trans HO.out); have z0 := cellsome O4.out (i * 3) (by have := HZ.out; omega); have z1 := cellsome O4.out (i * 3 + 1) (by have := HZ.out; omega); have z2 := cellsome O4.out (i * 3 + 2) (by have := HZ.out; omega); have f0 := blk_frozen O4.out (i * 3); have f1 := blk_frozen O4.out (i * 3 + 1); have f2 := blk_frozen O4.out (i * 3 + 2); clear hL hr hK hl hT hQ hc y0 y1 y2))
   obtain ⟨w5, hw5⟩ : ∃ w5, w5 = ((w4.setCell ⟨ro, i * 3, none⟩ (.int .i64 x)).setCell ⟨ro, i * 3 + 1, none⟩ (.int .i64 y)).setCell ⟨ro, i * 3 + 2, none⟩ (.slice (some ⟨r, 0, none⟩) m c3) := ⟨_, rfl⟩
   rw [← hw5]
   obtain ⟨cs5, hcs5⟩ : ∃ cs5, cs5 = ((cs.setIfInBounds (i * 3) (.int .i64 x)).setIfInBounds (i * 3 + 1) (.int .i64 y)).setIfInBounds (i * 3 + 2) (.slice (some ⟨r, 0, none⟩) m c3) := ⟨_, rfl⟩
   have O5 : w5.heap[ro]? = some (.cells cs5 25 (0, 0)) := by rw [hw5, hcs5]; exact blk_set (blk_set (blk_set O4.out (i * 3) _) (i * 3 + 1) _) (i * 3 + 2) _
   have st5 : ∀ k, k ≠ ro → w5.heap[k]? = w4.heap[k]? := by rw [hw5]; exact fun k hk => (Below.heap_setCell _ _ _ k hk).trans ((Below.heap_setCell _ _ _ k hk).trans (Below.heap_setCell _ _ _ k hk))
   have hz5 : cs5.size = (n + 5) * 3 := by rw [hcs5, Array.size_setIfInBounds, Array.size_setIfInBounds, Array.size_setIfInBounds]; exact HZ.out
   have B5 : Below B w4 w5 := by rw [hw5]; exact (below_set1 w4 ro (i * 3) _ (Nat.le_trans hBs GO.out)).trans ((below_set1 _ ro (i * 3 + 1) _ (Nat.le_trans hBs GO.out)).trans (below_set1 _ ro (i * 3 + 2) _ (Nat.le_trans hBs GO.out)))
   have hL5 : ∀ k, k < i + 1 → LPl w5 w.heap.size l cs5 k := by
    intro k hk
    by_cases hki : k = i
    ·subst hki
     refine ⟨r, c3, cl, ?_, ?_, ?_, Nat.le_trans HT.out.size HR4.out, (st5 r (blk_ne KC4.out O4.out (by decide))).trans KC4.out, by rw [HXE.out.2.2.2]; exact L4.out.2.1, ?_⟩
     ·rw [hcs5, HXE.out.1, Array.getElem?_setIfInBounds, if_neg (by omega), Array.getElem?_setIfInBounds, if_neg (by omega), Array.getElem?_setIfInBounds, if_pos rfl, if_pos (by have := HZ.out; have := HLT.out; omega)]
     ·rw [hcs5, HXE.out.2.1, Array.getElem?_setIfInBounds, if_neg (by omega), Array.getElem?_setIfInBounds, if_pos rfl, if_pos (by rw [Array.size_setIfInBounds]; have := HZ.out; have := HLT.out; omega)]
     ·rw [hcs5, HXE.out.2.2.2, Array.getElem?_setIfInBounds, if_pos rfl, if_pos (by rw [Array.size_setIfInBounds, Array.size_setIfInBounds]; have := HZ.out; have := HLT.out; omega)]
     ·rw [HXE.out.2.2.2, HXE.out.2.2.1]
      exact C_ati (C_ints L4.out.1) (st5 r (blk_ne KC4.out O4.out (by decide)))
    ·refine ((HL.out k (by omega)).move (cs1 := cs) (w1 := w4) (fun _ _ => rfl) (fun r cl _ hc => Q4.out r cl 50 hc (.inl rfl))).move (fun j hj => ?_) (fun r cl _ hc => st5 r (blk_ne hc O4.out (by decide)))
     rw [hcs5, Array.getElem?_setIfInBounds, if_neg (by omega), Array.getElem?_setIfInBounds, if_neg (by omega), Array.getElem?_setIfInBounds, if_neg (by omega)]
   refine ⟨⟨i + 1, cs5, hs4, ws4, HLT.out, by go_num, by have := HHL.out; have := HL4.out; omega, ⟨hz5⟩, ⟨O5⟩, ⟨hL5⟩, ⟨RM4.out.st O4.out st5⟩, ⟨T4.out.trans (.of_below B5)⟩, ⟨fun k cs t hk ht => ?_⟩⟩, by simp [intOf]; have := HLT.out; omega⟩
   have e1 := HQ.out k cs t hk ht
   have e2 := Q4.out k cs t (e1.trans hk) ht
   exact (st5 k (by have := blk_lt hk; have := GO.out; omega)).trans (e2.trans e1)
  ·obtain rfl : n = i := by omega
   have c1 : decide ((n : Int) < (n : Int)) = false := decide_eq_false (by omega)
   go_wp2
   go_ret
   exact ⟨ro, _, cs, hs1, ws1, rfl, by omega, GO.out, ⟨HO.out, fun k hk => HL.out k (by rw [← HLEN.out]; exact hk)⟩, HRM.out, HT.out, HQ.out⟩
end Go.Proofs.Ytodlgdpkadkjjaa.A
end
section
set_option linter.unusedVariables false
set_option linter.unusedSimpArgs false
namespace Go.Proofs.Ytodlgdpkadkjjaa.A
open Go.RowKit Go.Shelf Go.Proofs.YtodlgdpkadkjjaaW.PrintWords Go.Proofs.YtodlgdpkadkjjaaW.PrintLast Go.Proofs.YtodlgdpkadkjjaaW.PrintMore Go.Proofs.Ytodlgdpkadkjjaa.PPyramidLevels
theorem bldR_eq (W H : Nat) (xs : List Nat) (lv : Nat) : bldR W H xs lv = (bldP W H xs lv).map Pl.s25 := by
 unfold bldR bldP bldQ
 rw [List.map_map, List.range_succ, List.map_append]
 congr 1
 ·refine List.map_congr_left fun i hi => ?_
  have hi := List.mem_range.mp hi
  simp only [Function.comp_apply]
  rw [if_pos hi]
 ·simp only [List.map_cons, List.map_nil, Function.comp_apply]
  rw [if_neg (Nat.lt_irrefl _)]
/-- what Build tells -/
structure BO where
 l : List S25
 e : Nat
def bldO (x y : Int) (p : List Nat) (lv : Int) : BO := if checkE x y p.length = 0 then (if lv < 0 ∨ 12 < lv then ⟨[], 140⟩ else ⟨(bldP x.toNat y.toNat p lv.toNat).map Pl.s25, 0⟩) else ⟨[], checkE x y p.length⟩
def OutB (w : World) (o : BO) (e : Ending) (w' : World) : Prop := ∃ A c es ss, e = .returned (.tuple #[.slice A o.l.length c, .int .i64 (o.e : Int)]) ∧ PlsOwn w.heap.size w' (.slice A o.l.length c) es ss ∧ es.length ≤ 13 ∧ Kd.C k25 w' A o.l.length o.l ∧ o.l.length ≤ c ∧ Below w.heap.size w w'
def OutBr (w : World) (o : BO) (e : Ending) (w' : World) : Prop := ∃ A c, e = .returned (.tuple #[.slice A o.l.length c, .int .i64 (o.e : Int)]) ∧ k25.R 25 w' w.heap.size (fun _ => True) (.slice A o.l.length c) o.l ∧ Below w.heap.size w w'
section
variable {x y : Int} {A : Option Addr} {n c : Nat} {p : List Nat} {w : World}
theorem outB_nil {E : Nat} {f : FuncId} {args : Array Value} (h : Calls Try.prog f args w fun e w' => e = .returned (.tuple #[.slice none 0 0, .int .i64 (E : Int)]) ∧ Below w.heap.size w w') : Calls Try.prog f args w (OutB w ⟨[], E⟩) :=
 h.mono fun e w' h => ⟨none, 0, [], [], h.1, PlsOwn.nil _ _, Nat.zero_le _, Kd.C_nil _ _, Nat.le_refl _, h.2⟩
theorem outBr_nil {E : Nat} {f : FuncId} {args : Array Value} (h : Calls Try.prog f args w fun e w' => e = .returned (.tuple #[.slice none 0 0, .int .i64 (E : Int)]) ∧ Below w.heap.size w w') : Calls Try.prog f args w (OutBr w ⟨[], E⟩) :=
 h.mono fun e w' h => ⟨none, 0, h.1, Kd.R_nil _ _ _ _ _, h.2⟩
theorem Build_any (lv : Int) (h : PL w A n c p) (hx : ∀ i, gt p i < 4294967296) : Calls Try.prog 37 #[.agg #[.int .i64 x, .int .i64 y, .slice A n c], .int .i64 lv] w (OutB w (bldO x y p lv)) := by
 have hl := h.2.2
 have hn : n < 9223372036854775808 := by have := h.1.2.1; omega
 subst hl
 unfold bldO
 by_cases hE : checkE x y p.length = 0
 ·rw [if_pos hE]
  obtain ⟨W, H, rfl, rfl, h1, h2, h3, h4, h5, h6⟩ := checkE_zero hE
  have hp := okP_of hx h1 h2 h3 h4 h5 h6
  by_cases hlv : lv < 0 ∨ 12 < lv
  ·rw [if_pos hlv]; exact outB_nil (Build_levels W H p A _ c lv w hp h hlv)
  ·rw [if_neg hlv]
   obtain ⟨m, rfl⟩ : ∃ m : Nat, lv = m := ⟨lv.toNat, by omega⟩
   rw [Int.toNat_natCast, Int.toNat_natCast, Int.toNat_natCast]
   have hm : m ≤ 12 := by omega
   refine (Build_ok W H p A _ c m w hp h hm).mono ?_
   rintro e w' ⟨v, es, rfl, hO, hd, hb⟩
   obtain ⟨ap, c', rfl, hc, hC⟩ := hO.C25 (by rw [bldS_length]; omega) (by rw [bldS_length]; omega)
   rw [plsL_bld hd] at hC
   have e1 : (bldS W H p m).length = ((bldP W H p m).map Pl.s25).length := by rw [bldS_length, List.length_map, bldP_length]
   rw [e1] at hO hc hC
   refine ⟨some ap, c', es, _, by rw [e1]; rfl, hO, ?_, hC, hc, hb⟩
   rw [hO.len, bldS_length]
   omega
 ·rw [if_neg hE]; exact outB_nil (Build_bad x y A _ c lv w hn hE)
theorem rBuild_any (lv : Int) (h : PL w A n c p) (hx : ∀ i, gt p i < 4294967296) : Calls Try.prog 35 #[.agg #[.int .i64 x, .int .i64 y, .slice A n c], .int .i64 lv] w (OutBr w (bldO x y p lv)) := by
 have hl := h.2.2
 have hn : n < 9223372036854775808 := by have := h.1.2.1; omega
 subst hl
 unfold bldO
 by_cases hE : checkE x y p.length = 0
 ·rw [if_pos hE]
  by_cases hlv : lv < 0 ∨ 12 < lv
  ·rw [if_pos hlv]; exact outBr_nil (rBuild_levels x y A _ c p lv w h hE hlv)
  ·rw [if_neg hlv]
   obtain ⟨W, H, rfl, rfl, h1, h2, h3, h4, h5, h6⟩ := checkE_zero hE
   have hp := okP_of hx h1 h2 h3 h4 h5 h6
   obtain ⟨m, rfl⟩ : ∃ m : Nat, lv = m := ⟨lv.toNat, by omega⟩
   rw [Int.toNat_natCast, Int.toNat_natCast, Int.toNat_natCast]
   refine (rBuild_ok W H p A _ c m w hp h (by omega)).mono ?_
   rintro e w' ⟨v, rfl, hR, hb⟩
   rw [bldR_eq] at hR
   obtain ⟨A', c', rfl, _, _⟩ := Kd.R_reads hR
   exact ⟨A', c', rfl, hR, hb⟩
 ·rw [if_neg hE]; exact outBr_nil (rBuild_bad x y A _ c p lv w h hE)
end
theorem bldO_few (x y : Int) (p : List Nat) (lv : Int) (hx : ∀ i, gt p i < 4294967296) : (bldO x y p lv).l.length < 4611686018427387904 ∧ ∀ z ∈ (bldO x y p lv).l, z.f2.length < 4611686018427387904 := by
 unfold bldO
 split
 ·rename_i hE
  split
  ·exact ⟨by decide, fun z hz => by cases hz⟩
  ·rename_i hlv
   obtain ⟨W, H, rfl, rfl, h1, h2, h3, h4, h5, h6⟩ := checkE_zero hE
   rw [Int.toNat_natCast, Int.toNat_natCast]
   have hp := okP_of hx h1 h2 h3 h4 h5 h6
   refine ⟨by show ((bldP W H p lv.toNat).map Pl.s25).length < _; rw [List.length_map, bldP_length]; omega, fun z hz => ?_⟩
   obtain ⟨q, hq, rfl⟩ := List.mem_map.mp hz
   obtain ⟨i, hi, rfl⟩ := List.getElem_of_mem hq
   rw [bldP_length] at hi
   have h9 := bldP_ok (lv := lv.toNat) (i := i) hp (by omega)
   have e : (bldP W H p lv.toNat).getD i plz = (bldP W H p lv.toNat)[i] := by rw [List.getD_eq_getElem?_getD, List.getElem?_eq_getElem (by rw [bldP_length]; omega)]; rfl
   rw [e] at h9
   show (ints _).length < _
   rw [ints_length]
   have a := h9.2.2.2.2.2.1
   have b := h9.2.2.2.2.1
   simp only at a b
   omega
 ·exact ⟨by show ([] : List S25).length < _; decide, fun z hz => by cases hz⟩
theorem least {P : Nat → Prop} (h : ∃ b, P b) : ∃ b, P b ∧ ∀ i, i < b → ¬ P i := by
 obtain ⟨b, hb⟩ := h
 induction b using Nat.strongRecOn with
 | ind b ih =>
  by_cases h : ∃ i, i < b ∧ P i
  ·obtain ⟨i, hi, hp⟩ := h; exact ih i hi hp
  ·exact ⟨b, hb, fun i hi hp => h ⟨i, hi, hp⟩⟩
theorem rsts_ok {ps : List Pl} (h0 : 0 < ps.length) (hok : ∀ i, i < ps.length → (Pl.mk (ps.getD i plz).w (ps.getD i plz).h (ps.getD i plz).s).ok) : ∀ k, k < ps.length → (∀ k', k' ≤ k → (rsts ps k').1 = 0) → (Pl.mk (rsts ps k).2.w (rsts ps k).2.h (rsts ps k).2.s).ok := by
 intro k
 induction k with
 | zero => intro _ _; exact hok (ps.length - 1) (by omega)
 | succ k ih =>
  intro hk hz
  have h1 := hz (k + 1) (Nat.le_refl _)
  rw [rsts] at h1 ⊢
  split at h1
  ·rename_i hf_
   rw [if_pos hf_]
   exact joi_ok (hok (ps.length - 2 - k) (by omega))
  ·exact absurd h1 (by show ¬ (141 : Nat) = 0; decide)
def listP (l : List S25) : List Pl := l.map (fun z => ⟨z.f0.toNat, z.f1.toNat, z.f2.map Int.toNat⟩)
theorem Restore_both (l : List S25) (hs : ∀ i, i < l.length → ∃ p : List Nat, (rd_T25 l (i : Int)).f2 = ints p ∧ ∀ j, gt p j < 4294967296) :
    ∃ o : PO, o.s.length < 4611686018427387904 ∧ (∀ (A : Option Addr) (cap : Nat) (w : World), Kd.C k25 w A l.length l → Calls Try.prog 40 #[.slice A l.length cap] w (Out1 w o)) ∧ (∀ (A : Option Addr) (cap : Nat) (w : World), Kd.C k25 w A l.length l → Calls Try.prog 36 #[.slice A l.length cap] w (Out1 w o)) := by
 by_cases hm : l.length = 0 ∨ 13 < l.length
 ·exact ⟨⟨0, 0, [], 140⟩, by show ([] : List Nat).length < _; decide, fun A cap w _ => out_bad (Restore_many A _ cap w hm), fun A cap w _ => out_bad (rRestore_many A _ cap w hm)⟩
 have hn : 1 ≤ l.length ∧ l.length ≤ 13 := by omega
 by_cases hb : ∃ b, b < l.length ∧ chk l b ≠ 0
 ·obtain ⟨b, ⟨hb1, hb2⟩, hmin⟩ := least hb
  have hpre : ∀ i, i < b → chk l i = 0 := fun i hi => by
   rcases Nat.eq_zero_or_pos (chk l i) with h | h
   ·exact h
   ·exact absurd ⟨by omega, by omega⟩ (hmin i hi)
  exact ⟨⟨0, 0, [], chk l b⟩, by show ([] : List Nat).length < _; decide, fun A cap w h => out_bad (Restore_bad l A _ cap w h hn b hb1 hpre hb2), fun A cap w h => out_bad (rRestore_bad l A _ cap w h hn b hb1 hpre hb2)⟩
 have hall : ∀ i, i < l.length → chk l i = 0 := fun i hi => by
  rcases Nat.eq_zero_or_pos (chk l i) with h | h
  ·exact h
  ·exact absurd ⟨i, hi, by omega⟩ hb
 have hpl : (listP l).length = l.length := by unfold listP; rw [List.length_map]
 have key : ∀ i (hi : i < l.length), (listP l).getD i plz = ⟨(rd_T25 l (i : Int)).f0.toNat, (rd_T25 l (i : Int)).f1.toNat, (rd_T25 l (i : Int)).f2.map Int.toNat⟩ ∧ (Pl.mk ((listP l).getD i plz).w ((listP l).getD i plz).h ((listP l).getD i plz).s).ok ∧ ((listP l).getD i plz).s25 = rd_T25 l (i : Int) := by
  intro i hi
  have e : (listP l).getD i plz = ⟨(rd_T25 l (i : Int)).f0.toNat, (rd_T25 l (i : Int)).f1.toNat, (rd_T25 l (i : Int)).f2.map Int.toNat⟩ := by
   unfold listP rd_T25
   rw [List.getD_eq_getElem?_getD, List.getElem?_map, Int.toNat_natCast, List.getD_eq_getElem?_getD, List.getElem?_eq_getElem hi]
   rfl
  refine ⟨e, ?_⟩
  rw [e]
  obtain ⟨p, hp, hg⟩ := hs i hi
  have hc := hall i hi
  unfold chk at hc
  obtain ⟨W, H, e1, e2, h1, h2, h3, h4, h5, h6⟩ := checkE_zero hc
  have e3 : (ints p).map Int.toNat = p := by simp [ints, Function.comp_def]
  rw [hp, ints_length] at h6
  rw [hp, e1, e2, e3, Int.toNat_natCast, Int.toNat_natCast]
  refine ⟨okP_of hg h1 h2 h3 h4 h5 h6, ?_⟩
  unfold Pl.s25
  simp only
  rw [← e1, ← e2, ← hp]
 have hl : l = (listP l).map Pl.s25 := by
  apply List.ext_getElem?
  intro i
  by_cases hi : i < l.length
  ·have h9 := (key i hi).2.2
   rw [List.getElem?_map, List.getElem?_eq_getElem hi, List.getElem?_eq_getElem (by rw [hpl]; exact hi), Option.map_some]
   have e4 : (listP l).getD i plz = (listP l)[i]'(by rw [hpl]; exact hi) := by rw [List.getD_eq_getElem?_getD, List.getElem?_eq_getElem (by rw [hpl]; exact hi)]; rfl
   have e5 : rd_T25 l (i : Int) = l[i] := by unfold rd_T25; rw [Int.toNat_natCast, List.getD_eq_getElem?_getD, List.getElem?_eq_getElem hi]; rfl
   rw [e4, e5] at h9
   rw [h9]
  ·rw [List.getElem?_eq_none (by omega), List.getElem?_eq_none (by rw [List.length_map, hpl]; omega)]
 have hok : ∀ i, i < l.length → (Pl.mk ((listP l).getD i plz).w ((listP l).getD i plz).h ((listP l).getD i plz).s).ok := fun i hi => (key i hi).2.1
 by_cases h0 : ∀ k, k < l.length → (rsts (listP l) k).1 = 0
 ·have hrok := rsts_ok (ps := listP l) (by omega) (fun i hi => hok i (by omega)) (l.length - 1) (by omega) (fun k' hk' => h0 k' (by omega))
  have ha : (rsts (listP l) (l.length - 1)).2.s.length = (rsts (listP l) (l.length - 1)).2.w * (rsts (listP l) (l.length - 1)).2.h := hrok.2.2.2.2.2.1
  have hb2 : (rsts (listP l) (l.length - 1)).2.w * (rsts (listP l) (l.length - 1)).2.h ≤ 65536 := hrok.2.2.2.2.1
  refine ⟨⟨((rsts (listP l) (l.length - 1)).2.w : Int), ((rsts (listP l) (l.length - 1)).2.h : Int), (rsts (listP l) (l.length - 1)).2.s, 0⟩, by show (rsts (listP l) (l.length - 1)).2.s.length < _; omega, fun A cap w h => ?_, fun A cap w h => ?_⟩
  ·rw [hl, List.length_map, hpl] at h
   refine (Restore_main (listP l) A l.length cap w h hn hok).mono ?_
   rintro e w' ⟨h1, _, hb⟩
   obtain ⟨v, rfl, hR⟩ := h1 h0
   exact ⟨v, rfl, Ow.of_R hR, hb⟩
  ·rw [hl, List.length_map, hpl] at h
   refine (rRestore_main (listP l) A l.length cap w h hn hok).mono ?_
   rintro e w' ⟨h1, _, hb⟩
   obtain ⟨v, rfl, hR⟩ := h1 h0
   exact ⟨v, rfl, Ow.of_R hR, hb⟩
 ·have h0' : ∃ k, k < l.length ∧ (rsts (listP l) k).1 ≠ 0 := by
   apply Classical.byContradiction
   intro h
   exact h0 (fun k hk => Classical.byContradiction (fun h9 => h ⟨k, hk, h9⟩))
  refine ⟨⟨0, 0, [], 141⟩, by show ([] : List Nat).length < _; decide, fun A cap w h => ?_, fun A cap w h => ?_⟩
  ·rw [hl, List.length_map, hpl] at h
   refine out_bad ((Restore_main (listP l) A l.length cap w h hn hok).mono ?_)
   rintro e w' ⟨_, h2, hb⟩
   exact ⟨h2 h0', hb⟩
  ·rw [hl, List.length_map, hpl] at h
   refine out_bad ((rRestore_main (listP l) A l.length cap w h hn hok).mono ?_)
   rintro e w' ⟨_, h2, hb⟩
   exact ⟨h2 h0', hb⟩
end Go.Proofs.Ytodlgdpkadkjjaa.A
end
