import Derived.Test.YtbbebhdcfopmmaaT2
import Derived.ArgAppend
import Derived.Deep.Cut
import Derived.Laws.StructEq
import Derived.Laws.Tables
section
set_option linter.unusedVariables false
set_option linter.unusedSimpArgs false
namespace Go.Proofs.Ytbbebhdcfopmmaa.A
open Go.RowKit Go.Proofs.YtbbebhdcfopmmaaW.PrintWords Go.Proofs.YtbbebhdcfopmmaaW.PrintLast Go.Proofs.YtbbebhdcfopmmaaW.PrintMore Go.Proofs.Ytbbebhdcfopmmaa.PCodecNames

section
variable {P : Program} {ops : Array Oper} {Q : Exit → Act → World → Prop}
/-- append to a full row: a new row -/
theorem grow_step {o : Oper} {N : Option Tmp} {a : Act} {W : World} {K : Act → World → Prop} (hw : Region.wanted o (yielded ops a.tmps) = true) (hN : o.dst = N) (s x : Operand) (t e : TypeId) (z : Value) (bytes : Nat)
    (ho : o.op = .call { callee := .builtin .append, args := #[s, x], argTypes := #[t, t] }) (ht : P.underlying t = some (.slice e)) (hinfo : (P.info? e).map (fun i => (i.zero, i.size, i.bytes)) = some (some z, 1, bytes)) (hz : z.cells.size = 1)
    (b ad : Addr) (n m c : Nat) (olds news : List Value) (hs : a.eval s = .slice (some b) n n) (hx : a.eval x = .slice (some ad) m c) (hlo : olds.length = n) (hln : news.length = m) (hm : 0 < m) (hl : (n + m) ≤ 1048576) (hb : bytes ≤ 1048576)
    (holds : ∀ j u, olds[j]? = some u → W.cell? (b.add j) = some u) (hnews : ∀ j u, news[j]? = some u → W.cell? (ad.add j) = some u)
    (h : ∀ v w1, w1.ownsRow W.heap.size e 1 v (n + m) (olds ++ news) → W.grownBy w1 none → K (a.put N v) w1) : if Region.wanted o (yielded ops a.tmps) = true then Oper.wp P o a W K Q else K (a.put N undef) W := by
 obtain ⟨i0, hi, hzz⟩ := Option.map_eq_some_iff.1 hinfo
 simp only [Prod.mk.injEq] at hzz
 obtain ⟨hz0, hz1, hz2⟩ := hzz
 have hbb : (n + m) * bytes ≤ 140737488355328 := Nat.le_trans (Nat.mul_le_mul hl hb) (by decide)
 obtain ⟨v, w1, hr, hown, hg⟩ := run_append_arg_grows (P := P) W t o.type e i0 z 1 bytes ht hi hz0 hz1 hz2 hz (by decide) b n n olds (by omega) holds ad m c news (by omega) hnews (by omega) (by simp only [maxLen]; omega) hbb
 rw [if_pos hw]
 subst hN
 unfold Oper.wp
 have hrun : (execOp a.eval o).run P W = .ok (.value v) w1 := by simp [execOp, ho, resolve, Deferred.ofValue, invoke, builtin, hs, hx, hr]
 rw [hrun]
 exact h v w1 hown hg
end
theorem grown_none {w w1 : World} (h : w.grownBy w1 none) : Below w.heap.size w w1 := ⟨h.os, h.tape, h.output, h.size, fun k hk => h.block k hk (by simp)⟩
theorem Ow.move {k : IntKind} {e : TypeId} {w w1 : World} {B : Nat} {v : Value} {xs : List Nat} (h : Ow k e w B v xs) (hm : ∀ g, B ≤ g → g < w.heap.size → w1.heap[g]? = w.heap[g]?) : Ow k e w1 B v xs := by
 rcases h with h | ⟨g, cap, cur, rfl, hB, hh, h3, h4, h5, h6⟩
 ·exact .inl h
 ·exact .inr ⟨g, cap, cur, rfl, hB, (hm g hB (blk_lt hh)).trans hh, h3, h4, h5, h6⟩
theorem OwnB.ne {w : World} {B g : Nat} {t : TypeId} {cs : Array Value} {v : Value} {xs : List Nat} (h : OwnB w B v xs) (hb : w.heap[g]? = some (.cells cs t (0, 0))) (ht : 5 ≠ t) : ¬ v.ownBlock = some g := fun e => Kd.R_ne h hb ht e.symm
theorem TB.move {w w1 : World} {g : Nat} (h : TB w g) (hm : w1.heap[g]? = w.heap[g]?) : TB w1 g := by obtain ⟨cs, h1, h2⟩ := h; exact ⟨cs, hm.trans h1, h2⟩
theorem TB.block {w : World} {g : Nat} (h : TB w g) : ∃ cs : Array Value, w.heap[g]? = some (.cells cs 130 (0, 0)) := by obtain ⟨cs, h1, _⟩ := h; exact ⟨cs, h1⟩

/-- blocks that stay as they are: place, cells, type -/
abbrev Bk := Nat × Array Value × TypeId
def Stay (X : List Bk) (W : World) : Prop := ∀ b ∈ X, W.heap[b.1]? = some (.cells b.2.1 b.2.2 (0, 0)) ∧ 5 ≠ b.2.2
theorem Stay.nil (W : World) : Stay [] W := fun b hb => by cases hb
theorem Stay.cons {X : List Bk} {W : World} {g : Nat} {cs : Array Value} {t : TypeId} (h : W.heap[g]? = some (.cells cs t (0, 0))) (ht : 5 ≠ t) (hX : Stay X W) : Stay ((g, cs, t) :: X) W := fun b hb => by
 rcases List.mem_cons.mp hb with rfl | hb
 ·exact ⟨h, ht⟩
 ·exact hX b hb
theorem Stay.hd {X : List Bk} {W : World} {g : Nat} {cs : Array Value} {t : TypeId} (h : Stay ((g, cs, t) :: X) W) : W.heap[g]? = some (.cells cs t (0, 0)) := (h _ (List.mem_cons_self ..)).1
theorem Stay.tl {X : List Bk} {W : World} {b : Bk} (h : Stay (b :: X) W) : Stay X W := fun c hc => h c (List.mem_cons_of_mem _ hc)
theorem Stay.below {X : List Bk} {W W1 : World} (h : Stay X W) (hb : Below W.heap.size W W1) : Stay X W1 := fun b hm => ⟨blk_below (h b hm).1 hb, (h b hm).2⟩
theorem Stay.kept {X : List Bk} {W W1 : World} {B : Nat} {v : Value} {xs : List Nat} (h : Stay X W) (hv : OwnB W B v xs) (hK : Kept W W1 (fun k => v.ownBlock = some k)) : Stay X W1 :=
 fun b hm => ⟨(hK.2 b.1 (blk_lt (h b hm).1) (hv.ne (h b hm).1 (h b hm).2)).trans (h b hm).1, (h b hm).2⟩
/-- how things stand while Encode runs -/
structure EI (w : World) (X : List Bk) (W : World) (vo vp : Value) (out parts : List Nat) : Prop where
 hX : Stay X W
 hB : Below w.heap.size w W
 ho : OwnB W w.heap.size vo out
 hp : OwnB W w.heap.size vp parts
 ap : ApartV vo vp
theorem EI.below {w : World} {X : List Bk} {W W1 : World} {vo vp : Value} {out parts : List Nat} (h : EI w X W vo vp out parts) (hb : Below W.heap.size W W1) : EI w X W1 vo vp out parts :=
 ⟨h.hX.below hb, below_step h.hB hb, h.ho.below hb, h.hp.below hb, h.ap⟩
theorem EI.out {w : World} {X : List Bk} {W W1 : World} {vo vp v1 : Value} {out parts out1 : List Nat} (h : EI w X W vo vp out parts) (hR : OwnB W1 w.heap.size v1 out1) (hB : Below w.heap.size w W1) (hK : Kept W W1 (fun k => vo.ownBlock = some k)) (hv : ∀ k, v1.ownBlock = some k → vo.ownBlock = some k ∨ W.heap.size ≤ k) :
    EI w X W1 v1 vp out1 parts := by
 refine ⟨h.hX.kept h.ho hK, hB, hR, h.hp.kept hK (fun k hk he => h.ap k he hk), fun k hk he => ?_⟩
 rcases hv k hk with h1 | h1
 ·exact h.ap k h1 he
 ·have := (h.hp.lt he).2; omega
theorem EI.parts {w : World} {X : List Bk} {W W1 : World} {vo vp v1 : Value} {out parts parts1 : List Nat} (h : EI w X W vo vp out parts) (hR : OwnB W1 w.heap.size v1 parts1) (hB : Below w.heap.size w W1) (hK : Kept W W1 (fun k => vp.ownBlock = some k)) (hv : ∀ k, v1.ownBlock = some k → vp.ownBlock = some k ∨ W.heap.size ≤ k) :
    EI w X W1 vo v1 out parts1 := by
 refine ⟨h.hX.kept h.hp hK, hB, h.ho.kept hK (fun k hk he => h.ap k hk he), hR, fun k hk he => ?_⟩
 rcases hv k he with h1 | h1
 ·exact h.ap k hk h1
 ·have := (h.ho.lt hk).2; omega
theorem EI.newX {w : World} {X X1 : List Bk} {W : World} {vo vp : Value} {out parts : List Nat} (h : EI w X W vo vp out parts) (hX : Stay X1 W) : EI w X1 W vo vp out parts := ⟨hX, h.hB, h.ho, h.hp, h.ap⟩
/-- a store into a block that is none of these -/
theorem EI.store {w : World} {X : List Bk} {W W1 : World} {vo vp : Value} {out parts : List Nat} {g : Nat} {cs : Array Value} {t : TypeId} (h : EI w X W vo vp out parts) (hg : W.heap[g]? = some (.cells cs t (0, 0))) (ht : 5 ≠ t) (hX0 : X.all (fun b => b.2.2 != t) = true) (hst : ∀ k, k ≠ g → W1.heap[k]? = W.heap[k]?) (hb : Below w.heap.size W W1) : EI w X W1 vo vp out parts := by
 have hX : ∀ b ∈ X, b.2.2 ≠ t := fun b hb => by simpa using List.all_eq_true.mp hX0 b hb
 have ho : ∀ k, vo.ownBlock = some k → k ≠ g := fun k hk e => h.ho.ne hg ht (e ▸ hk)
 have hp : ∀ k, vp.ownBlock = some k → k ≠ g := fun k hk e => h.hp.ne hg ht (e ▸ hk)
 refine ⟨fun b hm => ⟨(hst b.1 (blk_ne (h.hX b hm).1 hg (hX b hm))).trans (h.hX b hm).1, (h.hX b hm).2⟩, h.hB.trans hb, Kd.R_step h.ho (fun k hk _ => hst k (ho k hk)), Kd.R_step h.hp (fun k hk _ => hst k (hp k hk)), h.ap⟩
/-- numbered, as bytes of one's own -/
theorem numbered_own {w W : World} {B : Nat} {v : Value} {b : List Nat} (n z : Nat) (hn : n ≤ 8) (hb : b.length < 70368744177664) (w0 : World) (hB : Below w0.heap.size w0 W) (ho : OwnB W w0.heap.size v b) :
    Calls Try.prog 65 #[v, .int .i64 (n : Int), .int .i64 (z : Int)] W fun e W' => ∃ v', e = .returned v' ∧ OwnB W' w0.heap.size v' (b ++ beN n z) ∧ Below w0.heap.size w0 W' ∧ Kept W W' (fun k => v.ownBlock = some k) ∧ (∀ k, v'.ownBlock = some k → v.ownBlock = some k ∨ W.heap.size ≤ k) := by
 refine (codec_numbered.calls (n + 2) (fun k => v.ownBlock = some k) v (ints b) (n : Int) (z : Int) (ints (b ++ beN n z)) w0 W hB (R_ints ho) (numbered_f b n z (n + 2) hn (by omega) hb)).mono ?_
 rintro e W' ⟨v', rfl, hR, hb, hk⟩
 exact ⟨v', rfl, OwnB.of_R (R_nats hR), hb, hk, fun k hk => hR.1 k hk⟩
theorem numbered2 {W : World} {v : Value} {b : List Nat} (z : Nat) (hb : b.length < 70368744177664) (w0 : World) (hB : Below w0.heap.size w0 W) (ho : OwnB W w0.heap.size v b) :
    Calls Try.prog 65 #[v, .int .i64 2, .int .i64 (z : Int)] W fun e W' => ∃ v', e = .returned v' ∧ OwnB W' w0.heap.size v' (b ++ beN 2 z) ∧ Below w0.heap.size w0 W' ∧ Kept W W' (fun k => v.ownBlock = some k) ∧ (∀ k, v'.ownBlock = some k → v.ownBlock = some k ∨ W.heap.size ≤ k) := numbered_own (w := W) (B := 0) 2 z (by omega) hb w0 hB ho
theorem numbered4 {W : World} {v : Value} {b : List Nat} (z : Nat) (hb : b.length < 70368744177664) (w0 : World) (hB : Below w0.heap.size w0 W) (ho : OwnB W w0.heap.size v b) :
    Calls Try.prog 65 #[v, .int .i64 4, .int .i64 (z : Int)] W fun e W' => ∃ v', e = .returned v' ∧ OwnB W' w0.heap.size v' (b ++ beN 4 z) ∧ Below w0.heap.size w0 W' ∧ Kept W W' (fun k => v.ownBlock = some k) ∧ (∀ k, v'.ownBlock = some k → v.ownBlock = some k ∨ W.heap.size ≤ k) := numbered_own (w := W) (B := 0) 4 z (by omega) hb w0 hB ho
theorem Pic.ok.len {p : Pic} (h : p.ok) : p.s31s.length = p.ss.length := by simp [Pic.s31s]
theorem Pic.s31s_at (p : Pic) {k : Nat} (hk : k < p.ss.length) : rd_T31 p.s31s (k : Int) = ⟨(p.w : Int), (p.h : Int), ints (p.ss.getD k [])⟩ := by
 unfold rd_T31 Pic.s31s
 rw [Int.toNat_natCast, List.getD_eq_getElem?_getD, List.getElem?_map, List.getD_eq_getElem?_getD, List.getElem?_eq_getElem hk]; rfl
theorem firstErr_ok {l : List S31} (h : ∀ x ∈ l, checkE x.f0 x.f1 x.f2.length = 0) : firstErr l = 0 := by
 induction l with
 | nil => rfl
 | cons a t ih =>
  unfold firstErr
  rw [if_pos (h a (List.mem_cons_self ..))]
  exact ih (fun x hx => h x (List.mem_cons_of_mem _ hx))
theorem sameSize_ok {a : S31} {l : List S31} (h : ∀ x ∈ l, x.f0 = a.f0 ∧ x.f1 = a.f1) : sameSize a l = true := by
 induction l with
 | nil => rfl
 | cons b t ih =>
  unfold sameSize
  rw [decide_eq_true (h b (List.mem_cons_self ..)).1, decide_eq_true (h b (List.mem_cons_self ..)).2, ih (fun x hx => h x (List.mem_cons_of_mem _ hx))]; rfl
theorem Pl.ok.check0 {p : Pl} (h : p.ok) : checkE (p.w : Int) (p.h : Int) p.s.length = 0 := by
 have h1 := h.check
 obtain ⟨o1, o2, o3, o4, o5, o6, o7⟩ := h
 rw [checkE_f _ _ _ (by rw [ints_length]; omega), ints_length, Option.some.injEq] at h1
 omega
theorem Pic.ok.pic0 {p : Pic} (h : p.ok) : picE (p.sp : Int) p.s31s = 0 := by
 obtain ⟨h1, h2, h3, h4, h5⟩ := h
 unfold picE
 have hl : p.s31s.length = p.ss.length := by simp [Pic.s31s]
 have hm : ∀ x ∈ p.s31s, ∃ k, k < p.ss.length ∧ x = ⟨(p.w : Int), (p.h : Int), ints (p.ss.getD k [])⟩ := by
  intro x hx
  obtain ⟨s, hs, rfl⟩ := List.mem_map.mp hx
  obtain ⟨k, hk, rfl⟩ := List.getElem_of_mem hs
  exact ⟨k, hk, by rw [List.getD_eq_getElem?_getD, List.getElem?_eq_getElem hk]; rfl⟩
 have hf : firstErr p.s31s = 0 := firstErr_ok (fun x hx => by
  obtain ⟨k, hk, rfl⟩ := hm x hx
  have := (h5 k hk).check0
  simpa [Pic.pl] using this)
 have h0 := p.s31s_at h2
 have hs : sameSize (rd_T31 p.s31s 0) p.s31s = true := by
  rw [show (0 : Int) = ((0 : Nat) : Int) from rfl, h0]
  exact sameSize_ok (fun x hx => by obtain ⟨k, hk, rfl⟩ := hm x hx; exact ⟨rfl, rfl⟩)
 rw [hl, if_neg (by omega), hf, if_neg (fun h => h rfl), if_pos hs]
 unfold spaceE
 rw [if_neg (by omega)]
theorem stepsBits_len : ∀ (l : List Nat) (s c : Nat), (stepsBits l s c).length ≤ 56 * l.length := by
 intro l
 induction l with
 | nil => intro s c; exact Nat.le_refl _
 | cons x l ih =>
  intro s c
  unfold stepsBits
  rw [List.length_append, List.length_cons]
  have := (codeBits_length (fold x) (kOf s c) (kOf_le s c)).1
  have := ih (nextS s c (fold x)) (nextC c)
  omega
theorem packed_len (l : List Nat) : (packed l).length ≤ 7 * l.length + 1 := by
 rw [(packed_bits l).1.1]
 have h1 := stepsBits_len l 16 1
 have h : (bitsL l).length = (stepsBits l 16 1).length := rfl
 omega
theorem packed_lt (l : List Nat) : ∀ i, gt (packed l) i < 256 := (packed_bits l).1.2
theorem mul_sub_lt {q a W S : Nat} (ha : a = acrossN W S) (hq : q < a) (hW : 0 < W) (hS : 0 < S) : q * S < W := by
 unfold acrossN at ha
 have h1 : a * S ≤ W + S - 1 := by rw [ha]; exact Nat.div_mul_le_self _ _
 have h2 : (q + 1) * S ≤ a * S := Nat.mul_le_mul hq (Nat.le_refl S)
 rw [Nat.succ_mul] at h2
 omega
theorem tX_lt {W S : Nat} (t : Nat) (hW : 0 < W) (hS : 0 < S) : tX W S t < W := mul_sub_lt rfl (Nat.mod_lt _ (acrossN_pos hW hS)) hW hS
theorem tY_lt {W H S t : Nat} (hH : 0 < H) (hS : 0 < S) (ht : t < tilesN W H S) : tY W S t < H := by
 refine mul_sub_lt rfl ?_ hH hS
 unfold tilesN at ht
 exact Nat.div_lt_of_lt_mul ht
theorem crop_ok {p : Pl} (hp : p.ok) {x0 y0 x1 y1 : Nat} (hx : x0 < x1) (hx2 : x1 ≤ p.w) (hy : y0 < y1) (hy2 : y1 ≤ p.h) : (Pl.mk (x1 - x0) (y1 - y0) (cropN p.s p.w x0 y0 x1 y1)).ok := by
 obtain ⟨o1, o2, o3, o4, o5, o6, o7⟩ := hp
 refine ⟨by show 0 < x1 - x0; omega, by show 0 < y1 - y0; omega, by show x1 - x0 ≤ 1024; omega, by show y1 - y0 ≤ 1024; omega, ?_, by show (cropN p.s p.w x0 y0 x1 y1).length = _; unfold cropN; rw [gridTo_length], ?_⟩
 ·exact Nat.le_trans (Nat.mul_le_mul (show x1 - x0 ≤ p.w by omega) (show y1 - y0 ≤ p.h by omega)) o5
 ·refine gt_lt_of (by decide) (fun x hx => ?_)
  unfold cropN gridTo at hx
  obtain ⟨i, _, rfl⟩ := List.mem_map.mp hx
  exact o7 _
theorem restsN_lt (xs : List Nat) (W : Nat) : ∀ i, gt (restsN xs W) i < 4294967296 := by
 refine gt_lt_of (by decide) (fun x hx => ?_)
 unfold restsN restsTo at hx
 obtain ⟨i, _, rfl⟩ := List.mem_map.mp hx
 exact restAt_lt _ _ _
theorem restsN_length (xs : List Nat) (W : Nat) : (restsN xs W).length = xs.length := restsTo_length _ _ _
theorem bodyN_len {p : Pl} (hp : p.ok) (x0 y0 x1 y1 : Nat) (hx2 : x1 ≤ p.w) (hy2 : y1 ≤ p.h) : (bodyN p.s p.w x0 y0 x1 y1).length ≤ 458753 := by
 obtain ⟨o1, o2, o3, o4, o5, o6, o7⟩ := hp
 unfold bodyN
 have h1 := packed_len (restsN (cropN p.s p.w x0 y0 x1 y1) (x1 - x0))
 rw [restsN_length] at h1
 have h2 : (cropN p.s p.w x0 y0 x1 y1).length ≤ 65536 := by
  unfold cropN
  rw [gridTo_length]
  exact Nat.le_trans (Nat.mul_le_mul (show x1 - x0 ≤ p.w by omega) (show y1 - y0 ≤ p.h by omega)) o5
 omega
theorem Pic.body_at (p : Pic) (S t k : Nat) (hk : k < p.ss.length) : p.body S (t * p.ss.length + k) = bodyN (p.ss.getD k []) p.w (tX p.w S t) (tY p.w S t) (min (tX p.w S t + S) p.w) (min (tY p.w S t + S) p.h) := by
 unfold Pic.body
 have h1 : (t * p.ss.length + k) % p.ss.length = k := by rw [Nat.add_comm, Nat.add_mul_mod_self_right, Nat.mod_eq_of_lt hk]
 have h2 : (t * p.ss.length + k) / p.ss.length = t := by rw [Nat.add_comm, Nat.add_mul_div_right _ _ (by omega : 0 < p.ss.length), Nat.div_eq_of_lt hk, Nat.zero_add]
 rw [h1, h2]
theorem Pic.body_len {p : Pic} (hp : p.ok) (S n : Nat) : (p.body S n).length ≤ 458753 := by
 have h0 : 0 < p.ss.length := hp.2.1
 exact bodyN_len (hp.2.2.2.2 (n % p.ss.length) (Nat.mod_lt _ h0)) _ _ _ _ (Nat.min_le_right _ _) (Nat.min_le_right _ _)
theorem Pic.idx_len (p : Pic) (S n : Nat) : (p.idx S n).length = 4 * n := by
 induction n with
 | zero => rfl
 | succ n ih => rw [p.idx_succ, List.length_append, ih, beN_length]; omega
theorem Pic.parts_len {p : Pic} (hp : p.ok) (S n : Nat) : (p.parts S n).length ≤ 458757 * n := by
 induction n with
 | zero => exact Nat.le_refl _
 | succ n ih =>
  have := Pic.body_len hp S n
  rw [p.parts_succ, List.length_append, List.length_append, beN_length]
  omega
theorem Pic.head_len (p : Pic) (S : Nat) : (p.head S).length = 12 := rfl
theorem tilesN_le {W H S : Nat} (h : W * H ≤ 65536) : tilesN W H S ≤ 65536 := Nat.le_trans (Nat.mul_le_mul (acrossN_le W S) (acrossN_le H S)) h
theorem Rests_own {x y : Nat} {A : Option Addr} {c : Nat} {zs rs : List Nat} {w : World} (k : Nat) (hC : (nat .u32).C w A zs.length zs) (hc : zs.length ≤ c) (h : codec_Rests.f k (x : Int) (y : Int) (ints zs) = some (ints rs, 0)) :
    Calls Try.prog 22 #[.agg #[.int .i64 (x : Int), .int .i64 (y : Int), .slice A zs.length c]] w fun e w' => ∃ v, e = .returned (.tuple #[v, .int .i64 0]) ∧ (nat .u32).R 24 w' w.heap.size (fun _ => True) v rs ∧ Below w.heap.size w w' := by
 have hC' := C_ints hC
 have h2 := codec_Rests.calls k (x : Int) (y : Int) A c (ints zs) (ints rs) 0 w (by rw [ints_length]; exact hC') (by rw [ints_length]; exact hc) h
 rw [ints_length] at h2
 refine h2.mono ?_
 rintro e w' ⟨v, rfl, hR, hb⟩
 exact ⟨v, rfl, R_nats hR, hb⟩
theorem kept_grown {W W1 : World} {v : Value} (hg : W.grownBy W1 v.ownBlock) : Kept W W1 (fun k => v.ownBlock = some k) := ⟨hg.size, fun i hi hn => hg.block i hi (fun e => hn e.symm)⟩
theorem hat_or {W : World} {v v1 : Value} (h : v1.ownBlock = v.ownBlock ∨ ∃ b, v1.ownBlock = some b ∧ W.heap.size ≤ b) : ∀ k, v1.ownBlock = some k → v.ownBlock = some k ∨ W.heap.size ≤ k := by
 intro k hk
 rcases h with h | ⟨b, h, hb⟩
 ·exact .inl (h ▸ hk)
 ·rw [h] at hk; injection hk with hk; subst hk; exact .inr hb
theorem Pic.out8 (p : Pic) (S n : Nat) : ∀ i, gt (p.head S ++ p.idx S n) i < 256 := by
 refine gt_lt_of (by decide) (fun x hx => ?_)
 rcases List.mem_append.mp hx with hx | hx
 ·unfold Pic.head at hx
  rcases List.mem_append.mp hx with hx | hx
  ·rcases List.mem_append.mp hx with hx | hx
   ·rcases List.mem_append.mp hx with hx | hx
    ·have h1 : p.sp % 256 < 256 := Nat.mod_lt _ (by decide)
     have h2 : p.ss.length % 256 < 256 := Nat.mod_lt _ (by decide)
     simp only [List.mem_cons, List.not_mem_nil, or_false] at hx
     omega
    ·exact beN_lt _ _ x hx
   ·exact beN_lt _ _ x hx
  ·exact beN_lt _ _ x hx
 ·unfold Pic.idx at hx
  obtain ⟨j, _, hx⟩ := List.mem_flatMap.mp hx
  exact beN_lt _ _ x hx
end Go.Proofs.Ytbbebhdcfopmmaa.A
end
section
set_option linter.unusedVariables false
set_option linter.unusedSimpArgs false
namespace Go.Proofs.Ytbbebhdcfopmmaa.A
open Go.RowKit Go.Proofs.YtbbebhdcfopmmaaW.PrintWords Go.Proofs.YtbbebhdcfopmmaaW.PrintLast Go.Proofs.YtbbebhdcfopmmaaW.PrintMore Go.Proofs.Ytbbebhdcfopmmaa.PCodecNames

theorem wrapI {z : Int} {d : Nat} (h : z = (d : Int)) (hd : d < 4611686018427387904) : IntKind.i64.wrap z = (d : Int) := by rw [h]; simp only [IntKind.wrap_i64]; omega
theorem wrapJ {z : Int} {d : Nat} (h : z = (d : Int)) (hd : d < 4611686018427387904) : wrap64 z = (d : Int) := by rw [h]; unfold wrap64; omega
theorem number_own {A : Option Addr} {c : Nat} {l : List Nat} {w : World} (hC : (nat .u8).C w A l.length l) (hc : l.length ≤ c) (hl : l.length ≤ 6) (h8 : ∀ i, gt l i < 256) :
    Calls Try.prog 94 #[.slice A l.length c] w fun e w' => e = .returned (.int .i64 ((numL 0 l : Nat) : Int)) ∧ Below w.heap.size w w' := by
 have hC' := C_ints hC
 have h2 := codec_number.calls 8 A c (ints l) ((numL 0 l : Nat) : Int) w (by rw [ints_length]; exact hC') (by rw [ints_length]; exact hc) (number_f l 8 hl h8 (Nat.le_refl _))
 rw [ints_length] at h2
 exact h2.mono fun e w' h => ⟨h.1, by obtain ⟨n, hn⟩ := h.2.out; rw [hn]; exact pw_below_drewN (Below.refl _ _) n⟩
set_option maxHeartbeats 1000000 in
set_option maxRecDepth 100000 in
theorem C_sub {k : IntKind} {w : World} {ad : Addr} {b : List Nat} {i n : Nat} (h : (nat k).C w (some ad) b.length b) (hi : i + n ≤ b.length) : (nat k).C w (some (ad.add i)) n ((b.drop i).take n) := by
 refine Kd.C_of_reads (d := 0) ⟨by rw [List.length_take, List.length_drop]; omega, by have := h.2.1; omega, fun hp => ⟨_, rfl, fun j hj => ?_⟩⟩
 obtain ⟨ad', e', hc⟩ := C_nat h (i + j) (by omega)
 injection e' with e'
 subst e'
 have e : (ad.add i).add j = ad.add (i + j) := by
  unfold Addr.add
  by_cases h1 : i = 0
  ·subst h1; simp
  ·by_cases h2 : j = 0
   ·subst h2; simp
   ·simp [h1, h2, Nat.add_assoc]
 rw [e, hc]
 have : gt b (i + j) = ((b.drop i).take n).getD j 0 := by unfold gt; rw [List.getD_eq_getElem?_getD, List.getD_eq_getElem?_getD, List.getElem?_take, if_pos hj, List.getElem?_drop]
 rw [this]
theorem C_none {k : IntKind} {w : World} (A : Option Addr) : (nat k).C w A 0 [] := Kd.C_of_reads (d := 0) ⟨rfl, by omega, fun hp => by omega⟩
/-- the next n bytes from i -/
def subN (b : List Nat) (i n : Nat) : List Nat := (b.drop i).take n
theorem subN_length {b : List Nat} {i n : Nat} (h : i + n ≤ b.length) : (subN b i n).length = n := by unfold subN; rw [List.length_take, List.length_drop]; omega
theorem take_short (g o n at_ cap : Nat) (A : Option Addr) (b : List Nat) (w : World) (c0 : w.cell? ⟨g, o, none⟩ = some (.slice A b.length cap)) (c1 : w.cell? ⟨g, o + 1, none⟩ = some (.int .i64 (at_ : Int))) (hat : at_ ≤ b.length) (hl : b.length < 4611686018427387904) (hn : b.length < at_ + n) (hn2 : n < 4611686018427387904) :
    Calls Try.prog 92 #[.pointer (some ⟨g, o, none⟩), .int .i64 (n : Int)] w fun e w' => e = .returned (.tuple #[.slice none 0 0, .bool false]) ∧ Below w.heap.size w w' := by
 have hu119 := Try.underlying119
 have t1 : decide ((b.length : Int) - (at_ : Int) < (n : Int)) = true := decide_eq_true (by omega)
 obtain ⟨d, hd⟩ : ∃ d, d = b.length - at_ := ⟨_, rfl⟩
 have t2 : decide (d < n) = true := decide_eq_true (by omega)
 have a1 : (b.length : Int) - (at_ : Int) = (d : Int) := by omega
 have a2 : d < 4611686018427387904 := by omega
 clear hat hl hn hn2 hd
 have e1 := wrapI a1 a2
 have e2 := wrapJ a1 a2
 clear a1 a2
 go_enter Try.func92, Try.ntmps92
 go_wp2
 go_quiet (fail)
 go_wp2
 go_ret2
 exact ⟨rfl, pw_below_drewN (Below.refl _ _) _⟩
set_option maxHeartbeats 1000000 in
set_option maxRecDepth 100000 in
theorem take_calls (g o n at_ cap : Nat) (ad : Addr) (b : List Nat) (w0 w : World) (hC : (nat .u8).C w0 (some ad) b.length b) (c0 : w.cell? ⟨g, o, none⟩ = some (.slice (some ad) b.length cap)) (c1 : w.cell? ⟨g, o + 1, none⟩ = some (.int .i64 (at_ : Int))) (f1 : w.frozen? ⟨g, o + 1, none⟩ = false) (hcap : b.length ≤ cap) (hat : at_ ≤ b.length) (hl : b.length < 4611686018427387904) (hn : at_ + n ≤ b.length) :
    Calls Try.prog 92 #[.pointer (some ⟨g, o, none⟩), .int .i64 (n : Int)] w fun e w' => ∃ A1 k, e = .returned (.tuple #[.slice A1 n n, .bool true]) ∧ (nat .u8).C w0 A1 n (subN b at_ n) ∧ w' = (w.drewN k).setCell ⟨g, o + 1, none⟩ (.int .i64 ((at_ + n : Nat) : Int)) := by
 have hu119 := Try.underlying119
 obtain ⟨d, hd⟩ : ∃ d, d = b.length - at_ := ⟨_, rfl⟩
 have t2 : decide (d < n) = false := decide_eq_false (by omega)
 obtain ⟨m, hm⟩ : ∃ m, m = at_ + n := ⟨_, rfl⟩
 have HM := Aside0.mk hm
 have HSUB := Aside0.mk (C_sub hC hn)
 rw [← hm]
 have a1 : (b.length : Int) - (at_ : Int) = (d : Int) := by omega
 have a2 : d < 4611686018427387904 := by omega
 have a3 : (at_ : Int) + (n : Int) = (m : Int) := by omega
 have a4 : m < 4611686018427387904 := by omega
 have i1 : m ≤ cap := by omega
 have i2 : at_ ≤ m := by omega
 have i3 : (m : Int) ≤ (cap : Int) := by omega
 have i4 : (at_ : Int) ≤ (m : Int) := by omega
 clear hat hl hn hd hm hC
 have e1 := wrapI a1 a2
 have e2 := wrapJ a1 a2
 have e3 := wrapI a3 a4
 have e4 := wrapJ a3 a4
 clear a1 a2 a3 a4
 go_enter Try.func92, Try.ntmps92
 go_wp2
 repeat (go_quiet (fail); try go_wp2)
 ·go_ret2
  rename_i h
  have hn0 : n = 0 := by have := HM.out; omega
  subst hn0
  exact ⟨some ad, rfl, by rw [show subN b at_ 0 = [] by simp [subN]]; exact C_none _, ⟨_, rfl⟩⟩
 ·go_ret2
  have hmn : m - at_ = n := by have := HM.out; omega
  exact ⟨some (ad.add at_), by rw [hmn]; rfl, HSUB.out, ⟨_, rfl⟩⟩
theorem subN_lt {b : List Nat} {i n : Nat} (h : ∀ i, gt b i < 256) : ∀ j, gt (subN b i n) j < 256 := by
 refine gt_lt_of (by decide) (fun x hx => ?_)
 exact mem_lt_of h x (List.mem_of_mem_drop (List.mem_of_mem_take hx))
set_option maxHeartbeats 1000000 in
set_option maxRecDepth 100000 in
theorem num_calls (g cap i m : Nat) (ad : Addr) (b : List Nat) (w : World) (hg : w.cell? ⟨g, 0, none⟩ = some (.slice (some ad) b.length cap)) (hC : (nat .u8).C w (some ad) b.length b) (hcap : b.length ≤ cap) (h8 : ∀ i, gt b i < 256) (him : i < m) (hm : m ≤ b.length) (h6 : m - i ≤ 6) :
    Calls Try.prog 93 #[.int .i64 (i : Int), .int .i64 (m : Int), .pointer (some ⟨g, 0, none⟩)] w fun e w' => e = .returned (.int .i64 ((numL 0 (subN b i (m - i)) : Nat) : Int)) ∧ Below w.heap.size w w' := by
 have i1 : m ≤ cap := by omega
 have i2 : i ≤ m := by omega
 have i3 : (m : Int) ≤ (cap : Int) := by omega
 have i4 : (i : Int) ≤ (m : Int) := by omega
 have i5 : ¬ (m - i = 0) := by omega
 have i6 : ¬ (m = i) := by omega
 have i7 : ¬ (cap = i) := by omega
 have i8 : ¬ (cap - i = 0) := by omega
 have hl : (subN b i (m - i)).length = m - i := subN_length (by omega)
 have HN := Aside0.mk (number_own (A := some (ad.add i)) (c := cap - i) (l := subN b i (m - i)) (w := w) (by rw [hl]; exact C_sub hC (by omega)) (by rw [hl]; omega) (by rw [hl]; exact h6) (subN_lt h8))
 rw [hl] at HN
 clear hl hcap him hm h6 hC
 go_enter Try.func93, Try.ntmps93
 go_wp2_with (go_at_call 94; refine HN.out.mono ?_; rintro e w2 ⟨rfl, hb⟩; have B2 := Aside0.mk hb; clear hb)
 go_ret
 exact ⟨rfl, B2.out⟩
end Go.Proofs.Ytbbebhdcfopmmaa.A
end
section
set_option linter.unusedVariables false
set_option linter.unusedSimpArgs false
namespace Go.Proofs.Ytbbebhdcfopmmaa.A
open Go.RowKit Go.Proofs.YtbbebhdcfopmmaaW.PrintWords Go.Proofs.YtbbebhdcfopmmaaW.PrintLast Go.Proofs.YtbbebhdcfopmmaaW.PrintMore Go.Proofs.Ytbbebhdcfopmmaa.PCodecNames

/-- a slice's header -/
abbrev Hd := Option Addr × Nat × Nat
def Hd.v (h : Hd) : Value := .slice h.1 h.2.1 h.2.2
def hdr : Kd Hd := Kd.scalar (fun h : Hd => h.v) (fun _ => rfl)
/-- a plane's three cells, its samples' row aside -/
def pk : Kd (Nat × Nat × Hd) := Kd.pair (nat .i64) (Kd.pair (nat .i64) hdr)
theorem pk_M {w : World} {B : Nat} {ok : Nat → Prop} (x y : Nat) (h : Hd) : pk.M w B ok (x, y, h) [.int .i64 (x : Int), .int .i64 (y : Int), h.v] := ⟨[.int .i64 (x : Int)], [.int .i64 (y : Int), h.v], rfl, rfl, ⟨[.int .i64 (y : Int)], [h.v], rfl, rfl, rfl⟩⟩
theorem infoPl : (Try.prog.info? 31).map (fun i => (i.zero, i.size, i.bytes)) = some (some (.agg #[.int .i64 0, .int .i64 0, .slice none 0 0]), 3, 40) := by kernel_rfl
theorem pk_move {W W1 : World} {B : Nat} {ok : Nat → Prop} {v : Value} {xs : List (Nat × Nat × Hd)} (h : pk.R 31 W B ok v xs) (hm : ∀ k, v.ownBlock = some k → W1.heap[k]? = W.heap[k]?) : pk.R 31 W1 B ok v xs := by
 obtain ⟨h0, inner, hown, hr⟩ := h
 refine ⟨h0, inner, own_move hown hm, hr.imp_ (fun x cs hx => ?_)⟩
 obtain ⟨c0, c1, rfl, e0, ⟨c2, c3, rfl, e1, e2⟩⟩ := hx
 exact ⟨c0, c2 ++ c3, rfl, e0, ⟨c2, c3, rfl, e1, e2⟩⟩
theorem pk_self {W : World} {B : Nat} {ok : Nat → Prop} {v : Value} {xs : List (Nat × Nat × Hd)} (h : pk.R 31 W B ok v xs) : pk.R 31 W B (fun k => v.ownBlock = some k) v xs := by
 obtain ⟨h0, inner, hown, hr⟩ := h
 refine ⟨fun k hk => hk, inner, hown, hr.imp_ (fun x cs hx => ?_)⟩
 obtain ⟨c0, c1, rfl, e0, ⟨c2, c3, rfl, e1, e2⟩⟩ := hx
 exact ⟨c0, c2 ++ c3, rfl, e0, ⟨c2, c3, rfl, e1, e2⟩⟩
theorem nat_self {k : IntKind} {e : TypeId} {W : World} {B : Nat} {ok : Nat → Prop} {v : Value} {xs : List Nat} (h : (nat k).R e W B ok v xs) : (nat k).R e W B (fun j => v.ownBlock = some j) v xs := Kd.R_of_own (Kd.own_of_R h) (fun _ hk => hk)
theorem nat_move {k : IntKind} {e : TypeId} {W W1 : World} {B : Nat} {ok : Nat → Prop} {v : Value} {xs : List Nat} (h : (nat k).R e W B ok v xs) (hm : ∀ j, v.ownBlock = some j → W1.heap[j]? = W.heap[j]?) : (nat k).R e W1 B ok v xs := Kd.R_of_own (own_move (Kd.own_of_R h) hm) h.1
/-- a picture in memory of one's own: no two planes share a row -/
structure PicOwn (B : Nat) (W : World) (vp : Value) (w h : Nat) (hs : List Hd) (ss : List (List Nat)) : Prop where
 row : pk.R 31 W B (fun k => vp.ownBlock = some k) vp (hs.map fun x => (w, h, x))
 len : hs.length = ss.length
 pls : ∀ k (h1 : k < hs.length), (nat .u32).R 24 W B (fun j => (hs[k]).v.ownBlock = some j) (hs[k]).v (ss.getD k [])
 ap : ∀ i j (h1 : i < hs.length) (h2 : j < hs.length), i ≠ j → ApartV (hs[i]).v (hs[j]).v
section
variable {B : Nat} {W W1 : World} {vp : Value} {w h : Nat} {hs : List Hd} {ss : List (List Nat)}
theorem PicOwn.move (H : PicOwn B W vp w h hs ss) (h1 : ∀ k, vp.ownBlock = some k → W1.heap[k]? = W.heap[k]?) (h2 : ∀ i (hi : i < hs.length) k, (hs[i]).v.ownBlock = some k → W1.heap[k]? = W.heap[k]?) : PicOwn B W1 vp w h hs ss :=
 ⟨pk_move H.row h1, H.len, fun k hk => nat_move (H.pls k hk) (h2 k hk), H.ap⟩
theorem PicOwn.row_lt (H : PicOwn B W vp w h hs ss) {k : Nat} (hk : vp.ownBlock = some k) : B ≤ k ∧ k < W.heap.size ∧ ∃ cells, W.heap[k]? = some (.cells cells 31 (0, 0)) := by
 obtain ⟨h0, inner, hown, hr⟩ := H.row
 obtain ⟨cs, hc⟩ := own_typed hown k hk
 have := (Kd.R_bound H.row).1 k hk
 exact ⟨this.2.1, this.2.2.1, cs, hc⟩
theorem PicOwn.pl_lt (H : PicOwn B W vp w h hs ss) {i : Nat} (hi : i < hs.length) {k : Nat} (hk : (hs[i]).v.ownBlock = some k) : B ≤ k ∧ k < W.heap.size ∧ ∃ cells, W.heap[k]? = some (.cells cells 24 (0, 0)) := by
 obtain ⟨cs, hc⟩ := own_typed (Kd.own_of_R (H.pls i hi)) k hk
 have := (Kd.R_bound (H.pls i hi)).1 k hk
 exact ⟨this.2.1, this.2.2.1, cs, hc⟩
theorem PicOwn.below (H : PicOwn B W vp w h hs ss) (hb : Below W.heap.size W W1) : PicOwn B W1 vp w h hs ss :=
 H.move (fun k hk => hb.block k (H.row_lt hk).2.1) (fun i hi k hk => hb.block k (H.pl_lt hi hk).2.1)
theorem PicOwn.keep (H : PicOwn B W vp w h hs ss) {g : Nat} (hst : ∀ k, k ≠ g → W1.heap[k]? = W.heap[k]?) (h1 : ¬ vp.ownBlock = some g) (h2 : ∀ i (hi : i < hs.length), ¬ (hs[i]).v.ownBlock = some g) : PicOwn B W1 vp w h hs ss :=
 H.move (fun k hk => hst k (fun e => h1 (e ▸ hk))) (fun i hi k hk => hst k (fun e => h2 i hi (e ▸ hk)))
theorem PicOwn.ne_row (H : PicOwn B W vp w h hs ss) {g : Nat} {cs : Array Value} {t : TypeId} (hg : W.heap[g]? = some (.cells cs t (0, 0))) (ht : t ≠ 31) : ¬ vp.ownBlock = some g := fun e => by
 obtain ⟨_, _, cells, hc⟩ := H.row_lt e
 rw [hg] at hc
 injection hc with hc
 injection hc with _ h2
 exact ht h2
theorem PicOwn.ne_pl (H : PicOwn B W vp w h hs ss) {g : Nat} {cs : Array Value} {t : TypeId} (hg : W.heap[g]? = some (.cells cs t (0, 0))) (ht : t ≠ 24) : ∀ i (hi : i < hs.length), ¬ (hs[i]).v.ownBlock = some g := fun i hi e => by
 obtain ⟨_, _, cells, hc⟩ := H.pl_lt hi e
 rw [hg] at hc
 injection hc with hc
 injection hc with _ h2
 exact ht h2
theorem PicOwn.nil (B : Nat) (W : World) (w h : Nat) : PicOwn B W (.slice none 0 0) w h [] [] := ⟨Kd.R_nil _ _ _ _ _, rfl, fun k hk => absurd hk (Nat.not_lt_zero _), fun i j hi => absurd hi (Nat.not_lt_zero _)⟩
end

theorem put2 {w3 w4 : World} {g : Nat} {t : TypeId} {a b x y : Value} (hP : w3.heap[g]? = some (.cells #[a, b] t (0, 0))) (h : w4 = (w3.setCell ⟨g, 0, none⟩ x).setCell ⟨g, 1, none⟩ y) :
    w4.heap[g]? = some (.cells #[x, y] t (0, 0)) ∧ (∀ k, k ≠ g → w4.heap[k]? = w3.heap[k]?) ∧ (∀ B, B ≤ g → Below B w3 w4) := by
 subst h
 refine ⟨(blk_set ((blk_set hP 0 x).trans rfl) 1 y).trans rfl, fun k hk => ?_, fun B hB => ?_⟩
 ·exact (Below.heap_setCell _ _ _ k hk).trans (Below.heap_setCell _ _ _ k hk)
 ·exact ((Below.refl B w3).setCell (p := ⟨g, 0, none⟩) hB x).setCell (p := ⟨g, 1, none⟩) hB y
set_option maxHeartbeats 2000000 in
set_option maxRecDepth 100000 in
theorem New_form (sp x y : Int) (n s : Nat) (w : World) (hn : n < 1 ∨ 4 < n) :
    Calls Try.prog 76 #[.int .i64 sp, .int .i64 (n : Int), .int .i64 x, .int .i64 y, .int .u32 (s : Int)] w fun e w' => e = .returned (.tuple #[.agg #[.int .i64 0, .slice none 0 0], .int .i64 80]) ∧ Below w.heap.size w w' := by
 have hu47 := Try.underlying47
 by_cases h0 : n < 1
 ·have t1 : decide ((n : Int) < 1) = true := decide_eq_true (by omega)
  have t2 : decide (n < 1) = true := decide_eq_true h0
  have t3 : (n == 0) = true := by rw [beq_iff_eq]; omega
  obtain rfl : n = 0 := by omega
  clear hn h0
  go_enter Try.func76, Try.ntmps76
  go_wp2_with (((with_reducible refine gate_dst (N := 10) rfl ?_); refine box_event ?hg (N := 10) ?hd (cs := #[.int .i64 0, .slice none 0 0]) (t := 47) ?hr ?_; (case hd => rfl); (case hg => rfl); (case hr => first | (go_simp; done) | (go_simp; rfl)); intro gR hg_ w1 hm_ hb_; have R1 := Aside0.mk (hm_); have B1 := Aside0.mk (hb_); have GR := Aside0.mk (show w.heap.size ≤ gR by rw [hg_]; exact Nat.le_refl _); have o0 := (blk_cell R1.out 0).trans rfl; have o1 := (blk_cell R1.out 1).trans rfl; have fo0 := blk_frozen R1.out 0; have fo1 := blk_frozen R1.out 1; clear hm_ hb_ hg_))
  obtain ⟨w9, hw9⟩ : ∃ w9, w9 = (w1.setCell ⟨gR, 0, none⟩ (.int .i64 0)).setCell ⟨gR, 1, none⟩ (.slice none 0 0) := ⟨_, rfl⟩
  rw [← hw9]
  obtain ⟨hG9, hst9, hbl9⟩ := put2 R1.out hw9
  refine bodyPost_ret (results_ct rfl _ _ gR 47 #[.int .i64 0, .slice none 0 0] (0, 0) _ rfl hG9 Try.underlying47 rfl (by kernel_rfl)) rfl ?_
  exact ⟨rfl, B1.out.trans (hbl9 _ GR.out)⟩
 ·have t1 : decide ((n : Int) < 1) = false := decide_eq_false (by omega)
  have t2 : decide (n < 1) = false := decide_eq_false h0
  have t4 : decide ((n : Int) > 4) = true := decide_eq_true (by omega)
  have t5 : decide (4 < n) = true := decide_eq_true (by omega)
  have t6 : decide (4 < (n : Int)) = true := decide_eq_true (by omega)
  clear hn h0
  go_enter Try.func76, Try.ntmps76
  go_wp2_with (((with_reducible refine gate_dst (N := 10) rfl ?_); refine box_event ?hg (N := 10) ?hd (cs := #[.int .i64 0, .slice none 0 0]) (t := 47) ?hr ?_; (case hd => rfl); (case hg => rfl); (case hr => first | (go_simp; done) | (go_simp; rfl)); intro gR hg_ w1 hm_ hb_; have R1 := Aside0.mk (hm_); have B1 := Aside0.mk (hb_); have GR := Aside0.mk (show w.heap.size ≤ gR by rw [hg_]; exact Nat.le_refl _); have o0 := (blk_cell R1.out 0).trans rfl; have o1 := (blk_cell R1.out 1).trans rfl; have fo0 := blk_frozen R1.out 0; have fo1 := blk_frozen R1.out 1; clear hm_ hb_ hg_))
  obtain ⟨w9, hw9⟩ : ∃ w9, w9 = (w1.setCell ⟨gR, 0, none⟩ (.int .i64 0)).setCell ⟨gR, 1, none⟩ (.slice none 0 0) := ⟨_, rfl⟩
  rw [← hw9]
  obtain ⟨hG9, hst9, hbl9⟩ := put2 R1.out hw9
  refine bodyPost_ret (results_ct rfl _ _ gR 47 #[.int .i64 0, .slice none 0 0] (0, 0) _ rfl hG9 Try.underlying47 rfl (by kernel_rfl)) rfl ?_
  exact ⟨rfl, B1.out.trans (hbl9 _ GR.out)⟩

set_option maxHeartbeats 2000000 in
set_option maxRecDepth 100000 in
theorem New_size (sp x y : Int) (n s : Nat) (w : World) (hn : 1 ≤ n) (hn4 : n ≤ 4) (hs : sizeB x y = false) :
    Calls Try.prog 76 #[.int .i64 sp, .int .i64 (n : Int), .int .i64 x, .int .i64 y, .int .u32 (s : Int)] w fun e w' => e = .returned (.tuple #[.agg #[.int .i64 0, .slice none 0 0], .int .i64 50]) ∧ Below w.heap.size w w' := by
 have hu47 := Try.underlying47
 have hu31 := Try.underlying31
 have t1 : decide ((n : Int) < 1) = false := decide_eq_false (by omega)
 have t2 : decide (n < 1) = false := decide_eq_false (by omega)
 have t5 : decide (4 < n) = false := decide_eq_false (by omega)
 have t6 : decide (4 < (n : Int)) = false := decide_eq_false (by omega)
 have t7 : decide (0 < n) = true := decide_eq_true (by omega)
 have t8 : decide (0 < (n : Int)) = true := decide_eq_true (by omega)
 have t9 : (n == 0) = false := by rw [beq_eq_false_iff_ne]; omega
 have HS := Aside0.mk hs
 clear hn hn4 hs
 go_enter Try.func76, Try.ntmps76
 go_wp2_with (first | ((with_reducible refine gate_dst (N := 10) rfl ?_); refine box_event ?hg (N := 10) ?hd (cs := #[.int .i64 0, .slice none 0 0]) (t := 47) ?hr ?_; (case hd => rfl); (case hg => rfl); (case hr => first | (go_simp; done) | (go_simp; rfl)); intro gR hg_ w1 hm_ hb_; have R1 := Aside0.mk (hm_); have B1 := Aside0.mk (hb_); have GR := Aside0.mk (show w.heap.size ≤ gR by rw [hg_]; exact Nat.le_refl _); clear hm_ hb_ hg_) | ((with_reducible refine gate_dst (N := 12) rfl ?_); refine box_event ?hg (N := 12) ?hd (cs := #[.int .i64 0, .slice none 0 0]) (t := 47) ?hr ?_; (case hd => rfl); (case hg => rfl); (case hr => first | (go_simp; done) | (go_simp; rfl)); intro gO hg_ w2 hm_ hb_; have R2 := Aside0.mk (blk_below R1.out hb_); have O2 := Aside0.mk (hm_); have B2 := Aside0.mk (below_step B1.out hb_); have GO := Aside0.mk (show w.heap.size ≤ gO by rw [hg_]; exact below_size B1.out); have NOR := Aside0.mk (show gO ≠ gR by rw [hg_]; have := blk_lt R1.out; omega); have o0 := (blk_cell O2.out 0).trans rfl; have o1 := (blk_cell O2.out 1).trans rfl; have fo0 := blk_frozen O2.out 0; have fo1 := blk_frozen O2.out 1; clear hm_ hb_ hg_))
 obtain ⟨w3, hw3⟩ : ∃ w3, w3 = (w2.setCell ⟨gO, 0, none⟩ (.int .i64 sp)).setCell ⟨gO, 1, none⟩ (.slice none 0 0) := ⟨_, rfl⟩
 rw [← hw3]
 obtain ⟨hG3, hst3, hbl3⟩ := put2 O2.out hw3
 have R3 := Aside0.mk ((hst3 gR (fun e => NOR.out e.symm)).trans R2.out)
 have B3 := Aside0.mk (B2.out.trans (hbl3 _ GO.out))
 clear hG3 hst3 hbl3 hw3 o0 o1 fo0 fo1
 go_loopw [26] (fun v W => v = .int .i64 0 ∧ Aside0 (W.heap[gR]? = some (.cells #[.int .i64 0, .slice none 0 0] 47 (0, 0))) ∧ Aside0 (Below w.heap.size w W)) (fun _ _ => 0)
 case atStart => exact ⟨rfl, R3, B3⟩
 case round =>
  clear R3 B3 R2 B2 O2
  obtain ⟨rfl, R3, B3⟩ := hrel
  go_wp2_with (first | (go_at_call 96; refine (New_calls x y s _).mono ?_; rw [HS.out]; rintro e w4 ⟨v, rfl, hR, hb⟩; obtain ⟨Av, cv, rfl⟩ := Kd.R_slice hR; have R4 := Aside0.mk (blk_below R3.out hb); have B4 := Aside0.mk (below_step B3.out hb); clear hR hb) | ((with_reducible refine gate_dst (N := 13) rfl ?_); refine box_event ?hg (N := 13) ?hd (cs := #[.int .i64 0, .int .i64 0, .slice none 0 0]) (t := 31) ?hr ?_; (case hd => rfl); (case hg => rfl); (case hr => first | (go_simp; done) | (go_simp; rfl)); intro gq hg_ w5 hm_ hb_; have R5 := Aside0.mk (blk_below R4.out hb_); have Q5 := Aside0.mk (hm_); have B5 := Aside0.mk (below_step B4.out hb_); have GQ := Aside0.mk (show w.heap.size ≤ gq by rw [hg_]; exact below_size B4.out); have NQR := Aside0.mk (blk_ne R5.out Q5.out (by decide)); have q0 := (blk_cell Q5.out 0).trans rfl; have q1 := (blk_cell Q5.out 1).trans rfl; have q2 := (blk_cell Q5.out 2).trans rfl; have fq0 := blk_frozen Q5.out 0; have fq1 := blk_frozen Q5.out 1; have fq2 := blk_frozen Q5.out 2; have R6 := Aside0.mk (show (((w5.setCell ⟨gq, 0, none⟩ (.int .i64 0)).setCell ⟨gq, 1, none⟩ (.int .i64 0)).setCell ⟨gq, 2, none⟩ (.slice Av 0 cv)).heap[gR]? = some (.cells #[.int .i64 0, .slice none 0 0] 47 (0, 0)) from ((put3 Q5.out rfl).2.1 gR NQR.out).trans R5.out); have B6 := Aside0.mk (show Below w.heap.size w (((w5.setCell ⟨gq, 0, none⟩ (.int .i64 0)).setCell ⟨gq, 1, none⟩ (.int .i64 0)).setCell ⟨gq, 2, none⟩ (.slice Av 0 cv)) from B5.out.trans ((put3 Q5.out rfl).2.2 _ GQ.out)); have o0 := (blk_cell R6.out 0).trans rfl; have o1 := (blk_cell R6.out 1).trans rfl; have fo0 := blk_frozen R6.out 0; have fo1 := blk_frozen R6.out 1; clear hm_ hb_ hg_))
  obtain ⟨w6, hw6⟩ : ∃ w6, w6 = (((w5.setCell ⟨gq, 0, none⟩ (.int .i64 0)).setCell ⟨gq, 1, none⟩ (.int .i64 0)).setCell ⟨gq, 2, none⟩ (.slice Av 0 cv)) := ⟨_, rfl⟩
  rw [← hw6] at R6 B6 ⊢
  clear hw6 o0 o1 fo0 fo1
  obtain ⟨w9, hw9⟩ : ∃ w9, w9 = (w6.setCell ⟨gR, 0, none⟩ (.int .i64 0)).setCell ⟨gR, 1, none⟩ (.slice none 0 0) := ⟨_, rfl⟩
  rw [← hw9]
  obtain ⟨hG9, hst9, hbl9⟩ := put2 R6.out hw9
  refine bodyPost_ret (results_ct rfl _ _ gR 47 #[.int .i64 0, .slice none 0 0] (0, 0) _ rfl hG9 Try.underlying47 rfl (by kernel_rfl)) rfl ?_
  exact ⟨rfl, B6.out.trans (hbl9 _ GR.out)⟩

section
variable {B : Nat} {W W1 : World} {vp : Value} {w h : Nat} {hs : List Hd} {ss : List (List Nat)}
theorem PicOwn.push (H : PicOwn B W vp w h hs ss) (x : Hd) (zs : List Nat) {ok : Nat → Prop} (hx : (nat .u32).R 24 W B ok x.v zs) (hap : ∀ k (hk : k < hs.length), ApartV (hs[k]).v x.v) {v1 : Value} {ok1 : Nat → Prop} (hR : pk.R 31 W1 B ok1 v1 ((hs.map fun x => (w, h, x)) ++ [(w, h, x)])) (hg : W.grownBy W1 vp.ownBlock) :
    PicOwn B W1 v1 w h (hs ++ [x]) (ss ++ [zs]) := by
 have hne : ∀ k (cs : Array Value), W.heap[k]? = some (Obj.cells cs 24 (0, 0)) → W1.heap[k]? = W.heap[k]? := fun k cs hc => hg.block k (blk_lt hc) (fun e => by
  obtain ⟨_, _, cells, hc2⟩ := H.row_lt e.symm
  rw [hc] at hc2
  injection hc2 with hc2
  injection hc2 with _ h2
  exact absurd h2 (by decide))
 have hxt : ∀ j, x.v.ownBlock = some j → W1.heap[j]? = W.heap[j]? := fun j hj => by
  obtain ⟨cs, hc⟩ := own_typed (Kd.own_of_R hx) j hj
  exact hne j cs hc
 refine ⟨pk_self (by rw [List.map_append]; exact hR), by simp [H.len], fun k hk => ?_, fun i j h1 h2 hij => ?_⟩
 ·by_cases hkl : k < hs.length
  ·have e1 : (hs ++ [x])[k] = hs[k] := List.getElem_append_left hkl
   have e2 : (ss ++ [zs]).getD k [] = ss.getD k [] := by
    rw [List.getD_eq_getElem?_getD, List.getD_eq_getElem?_getD, List.getElem?_append_left (by rw [← H.len]; exact hkl)]
   rw [e1, e2]
   exact nat_move (H.pls k hkl) (fun j hj => by obtain ⟨_, _, cs, hc⟩ := H.pl_lt hkl hj; exact hne j cs hc)
  ·have hk' : k = hs.length := by simp at hk; omega
   subst hk'
   have e1 : (hs ++ [x])[hs.length] = x := by simp
   have e2 : (ss ++ [zs]).getD hs.length [] = zs := by rw [H.len]; simp
   rw [e1, e2]
   exact nat_self (nat_move hx hxt)
 ·by_cases hi : i < hs.length
  ·by_cases hj : j < hs.length
   ·rw [List.getElem_append_left hi, List.getElem_append_left hj]; exact H.ap i j hi hj hij
   ·have hj' : j = hs.length := by simp at h2; omega
    subst hj'
    have e1 : (hs ++ [x])[hs.length] = x := by simp
    rw [List.getElem_append_left hi, e1]; exact hap i hi
  ·have hi' : i = hs.length := by simp at h1; omega
   subst hi'
   have hj : j < hs.length := by simp at h2; omega
   have e1 : (hs ++ [x])[hs.length] = x := by simp
   rw [List.getElem_append_left hj, e1]
   exact fun k hk he => hap j hj k he hk
end
set_option maxHeartbeats 4000000 in
set_option maxRecDepth 100000 in
theorem New_main (sp : Int) (n s W H : Nat) (w : World) (hn : 1 ≤ n) (hn4 : n ≤ 4) (hs : sizeB (W : Int) (H : Int) = true) :
    Calls Try.prog 76 #[.int .i64 sp, .int .i64 (n : Int), .int .i64 (W : Int), .int .i64 (H : Int), .int .u32 (s : Int)] w fun e w' => (∃ vp, e = .returned (.tuple #[.agg #[.int .i64 (if spaceE sp n = 0 then sp else 0), vp], .int .i64 ((spaceE sp n : Nat) : Int)]) ∧ (spaceE sp n = 0 → ∃ hs, PicOwn w.heap.size w' vp W H hs (List.replicate n (List.replicate (W * H) s))) ∧ (spaceE sp n ≠ 0 → vp = .slice none 0 0)) ∧ Below w.heap.size w w' := by
 have hu47 := Try.underlying47
 have hu31 := Try.underlying31
 have t1 : decide ((n : Int) < 1) = false := decide_eq_false (by omega)
 have t2 : decide (n < 1) = false := decide_eq_false (by omega)
 have t5 : decide (4 < n) = false := decide_eq_false (by omega)
 have t6 : decide (4 < (n : Int)) = false := decide_eq_false (by omega)
 have t9 : (n == 0) = false := by rw [beq_eq_false_iff_ne]; omega
 have HS := Aside0.mk hs
 obtain ⟨b1, b2, b3, b4, b5⟩ := sizeB_true hs
 obtain ⟨zs, hzs⟩ : ∃ zs, zs = List.replicate (W * H) s := ⟨_, rfl⟩
 have HZS := Aside0.mk hzs
 have HZ2 : Aside0 (List.replicate ((W : Int) * (H : Int)).toNat s = zs) := ⟨by rw [hzs, ← Int.natCast_mul, Int.toNat_natCast]⟩
 have HE := Aside0.mk (spaceE_f sp n)
 obtain ⟨z, hz⟩ : ∃ z, z = spaceE sp n := ⟨_, rfl⟩
 rw [← hz] at HE
 rw [← hz, ← hzs]
 clear hs hzs hz b1 b2 b3 b4 b5
 go_enter Try.func76, Try.ntmps76
 go_wp2_with (first | ((with_reducible refine gate_dst (N := 10) rfl ?_); refine box_event ?hg (N := 10) ?hd (cs := #[.int .i64 0, .slice none 0 0]) (t := 47) ?hr ?_; (case hd => rfl); (case hg => rfl); (case hr => first | (go_simp; done) | (go_simp; rfl)); intro gR hg_ w1 hm_ hb_; have R1 := Aside0.mk (hm_); have B1 := Aside0.mk (hb_); have GR := Aside0.mk (show w.heap.size ≤ gR by rw [hg_]; exact Nat.le_refl _); clear hm_ hb_ hg_) | ((with_reducible refine gate_dst (N := 12) rfl ?_); refine box_event ?hg (N := 12) ?hd (cs := #[.int .i64 0, .slice none 0 0]) (t := 47) ?hr ?_; (case hd => rfl); (case hg => rfl); (case hr => first | (go_simp; done) | (go_simp; rfl)); intro gO hg_ w2 hm_ hb_; have R2 := Aside0.mk (blk_below R1.out hb_); have O2 := Aside0.mk (hm_); have B2 := Aside0.mk (below_step B1.out hb_); have GO := Aside0.mk (show w.heap.size ≤ gO by rw [hg_]; exact below_size B1.out); have NOR := Aside0.mk (show gO ≠ gR by rw [hg_]; have := blk_lt R1.out; omega); have o0 := (blk_cell O2.out 0).trans rfl; have o1 := (blk_cell O2.out 1).trans rfl; have fo0 := blk_frozen O2.out 0; have fo1 := blk_frozen O2.out 1; clear hm_ hb_ hg_))
 obtain ⟨w3, hw3⟩ : ∃ w3, w3 = (w2.setCell ⟨gO, 0, none⟩ (.int .i64 sp)).setCell ⟨gO, 1, none⟩ (.slice none 0 0) := ⟨_, rfl⟩
 rw [← hw3]
 obtain ⟨hG3, hst3, hbl3⟩ := put2 O2.out hw3
 have O3 := Aside0.mk hG3
 have R3 := Aside0.mk ((hst3 gR (fun e => NOR.out e.symm)).trans R2.out)
 have B3 := Aside0.mk (B2.out.trans (hbl3 _ GO.out))
 clear hG3 hst3 hbl3 hw3 o0 o1 fo0 fo1 R2 B2 O2
 go_loopw [26] (fun v W' => ∃ (i : Nat) (Ap : Option Addr) (cp : Nat) (hs : List Hd), i ≤ n ∧ v = .int .i64 (i : Int) ∧ Aside0 (hs.length = i) ∧ Aside0 (W'.heap[gO]? = some (.cells #[.int .i64 sp, .slice Ap i cp] 47 (0, 0))) ∧ Aside0 (W'.heap[gR]? = some (.cells #[.int .i64 0, .slice none 0 0] 47 (0, 0))) ∧ Aside0 (PicOwn w.heap.size W' (.slice Ap i cp) W H hs (List.replicate i zs)) ∧ Aside0 (Below w.heap.size w W')) (fun v _ => n - (intOf v).toNat)
 case atStart => exact ⟨0, none, 0, [], Nat.zero_le _, rfl, ⟨rfl⟩, O3, R3, ⟨PicOwn.nil _ _ _ _⟩, B3⟩
 case round =>
  clear O3 R3 B3
  obtain ⟨i, Ap, cp, hs, hi, rfl, HLI, O3, R3, PO3, B3⟩ := hrel
  by_cases hin : i < n
  ·have c1 : decide ((i : Int) < (n : Int)) = true := decide_eq_true (by omega)
   have c2 : decide (i < n) = true := decide_eq_true hin
   obtain ⟨ys, hys⟩ : ∃ ys, ys = (hs.map fun x => (W, H, x)) ++ [(W, H, ((none, 0, 0) : Hd))] := ⟨_, rfl⟩
   have HLY : Aside0 (((hs.map fun x => (W, H, x)).length + 1) * 40 ≤ 140737488355328) := ⟨by rw [List.length_map, HLI.out]; omega⟩
   clear hys
   go_wp2_with (first | (go_at_call 96; refine (New_calls (W : Int) (H : Int) s _).mono ?_; rw [HS.out]; simp only [if_true]; rw [HZ2.out]; rintro e w4 ⟨v, rfl, hR, hb⟩; obtain ⟨Av, cv, rfl⟩ := Kd.R_slice hR; have R4 := Aside0.mk (blk_below R3.out hb); have O4 := Aside0.mk (blk_below O3.out hb); have PO4 := Aside0.mk (PO3.out.below hb); have V4 := Aside0.mk (Kd.R_lower hR B3.out.size); have HAP := Aside0.mk (fun k (hk : k < hs.length) => (show ApartV (hs[k]).v (Value.slice Av zs.length cv) from fun j hj he => by have h1 := (PO3.out.pl_lt hk hj).2.1; have h2 := ((Kd.R_bound hR).1 j he).2.1; omega)); have B4 := Aside0.mk (below_step B3.out hb); clear hR hb) | ((with_reducible refine gate_dst (N := 13) rfl ?_); refine box_event ?hg (N := 13) ?hd (cs := #[.int .i64 0, .int .i64 0, .slice none 0 0]) (t := 31) ?hr ?_; (case hd => rfl); (case hg => rfl); (case hr => first | (go_simp; done) | (go_simp; rfl)); intro gq hg_ w5 hm_ hb_; have R5 := Aside0.mk (blk_below R4.out hb_); have O5 := Aside0.mk (blk_below O4.out hb_); have PO5 := Aside0.mk (PO4.out.below hb_); have V5 := Aside0.mk (Kd.R_below V4.out hb_); have Q5 := Aside0.mk (hm_); have B5 := Aside0.mk (below_step B4.out hb_); have GQ := Aside0.mk (show w.heap.size ≤ gq by rw [hg_]; exact below_size B4.out); have NQR := Aside0.mk (blk_ne R5.out Q5.out (by decide)); have NQO := Aside0.mk (blk_ne O5.out Q5.out (by decide)); have NQP := Aside0.mk (show ¬ (Value.slice Ap i cp).ownBlock = some gq from fun e => by have h := (PO4.out.row_lt e).2.1; rw [hg_] at h; exact Nat.lt_irrefl _ h); have q0 := (blk_cell Q5.out 0).trans rfl; have q1 := (blk_cell Q5.out 1).trans rfl; have q2 := (blk_cell Q5.out 2).trans rfl; have fq0 := blk_frozen Q5.out 0; have fq1 := blk_frozen Q5.out 1; have fq2 := blk_frozen Q5.out 2; have K6 := Aside0.mk (put3 (x := .int .i64 (W : Int)) (y := .int .i64 (H : Int)) (z := .slice Av zs.length cv) Q5.out rfl); have R6 := Aside0.mk ((K6.out.2.1 gR NQR.out).trans R5.out); have O6 := Aside0.mk ((K6.out.2.1 gO NQO.out).trans O5.out); have PO6 := Aside0.mk (PO5.out.keep K6.out.2.1 NQP.out (PO5.out.ne_pl Q5.out (by decide))); have V6 := Aside0.mk (Kd.R_mono (Kd.R_move (Kd.R_types V5.out Q5.out (by decide)) (fun k hk => K6.out.2.1 k hk.2)) (fun _ _ => trivial)); have B6 := Aside0.mk (B5.out.trans (K6.out.2.2 _ GQ.out)); have g0 := (blk_cell K6.out.1 0).trans rfl; have g1 := (blk_cell K6.out.1 1).trans rfl; have g2 := (blk_cell K6.out.1 2).trans rfl; have h1 := (blk_cell O6.out 1).trans rfl; clear hm_ hb_ hg_) |
    ((with_reducible refine gate_builtin (b := .append) (xs := #[.tmp 40, .tmp 42]) rfl ?_); at_builtin; refine Kd.R_append pk (w0 := w) w.heap.size rfl (.tmp 40) (.tmp 42) 45 31 (.agg #[.int .i64 0, .int .i64 0, .slice none 0 0]) 40 rfl Try.underlying45 infoPl rfl (by decide) (by decide) (.slice Ap i cp) (hs.map fun x => (W, H, x)) (W, H, ((Av, zs.length, cv) : Hd)) [.int .i64 (W : Int), .int .i64 (H : Int), .slice Av zs.length cv] (fun _ => True) (fun _ => False) rfl (by first | rfl | (simp [Act.eval]; done) | (simp [Act.eval]; rfl)) (pk_M W H (Av, zs.length, cv)) (fun _ h => h.elim) (fun _ _ => trivial) (Kd.R_mono PO6.out.row (fun _ _ => trivial)) B6.out (below_size B6.out) HLY.out ?_; intro v8 w8 hR hB hg hat; obtain ⟨A8, c8, e8⟩ := Kd.R_slice hR; rw [show ((hs.map fun x => (W, H, x)) ++ [(W, H, ((Av, zs.length, cv) : Hd))]).length = i + 1 by rw [List.length_append, List.length_map, HLI.out]; rfl] at e8; subst e8; have PO8 := Aside0.mk (PO6.out.push (Av, zs.length, cv) zs V6.out HAP.out hR hg); have B8 := Aside0.mk hB; have O8 := Aside0.mk ((hg.block gO (blk_lt O6.out) (fun e => PO6.out.ne_row O6.out (by decide) e.symm)).trans O6.out); have R8 := Aside0.mk ((hg.block gR (blk_lt R6.out) (fun e => PO6.out.ne_row R6.out (by decide) e.symm)).trans R6.out); have o1 := (blk_cell O8.out 1).trans rfl; have fo1 := blk_frozen O8.out 1; clear hR hB hg hat))
   obtain ⟨w10, hw10⟩ : ∃ w10, w10 = w8.setCell ⟨gO, 1, none⟩ (.slice A8 (i + 1) c8) := ⟨_, rfl⟩
   rw [← hw10]
   have st10 : ∀ k, k ≠ gO → w10.heap[k]? = w8.heap[k]? := by rw [hw10]; exact fun k hk => Below.heap_setCell _ _ _ k hk
   have O10 : Aside0 (w10.heap[gO]? = some (.cells #[.int .i64 sp, .slice A8 (i + 1) c8] 47 (0, 0))) := ⟨by rw [hw10]; exact (blk_set O8.out 1 _).trans rfl⟩
   have R10 : Aside0 (w10.heap[gR]? = some (.cells #[.int .i64 0, .slice none 0 0] 47 (0, 0))) := ⟨(st10 gR (fun e => NOR.out e.symm)).trans R8.out⟩
   have PO10 : Aside0 (PicOwn w.heap.size w10 (.slice A8 (i + 1) c8) W H (hs ++ [((Av, zs.length, cv) : Hd)]) (List.replicate (i + 1) zs)) := ⟨by rw [List.replicate_succ']; exact PO8.out.keep st10 (PO8.out.ne_row O8.out (by decide)) (PO8.out.ne_pl O8.out (by decide))⟩
   have B10 : Aside0 (Below w.heap.size w w10) := ⟨by rw [hw10]; exact B8.out.setCell (p := ⟨gO, 1, none⟩) GO.out _⟩
   have HL10 : Aside0 ((hs ++ [((Av, zs.length, cv) : Hd)]).length = i + 1) := ⟨by rw [List.length_append, HLI.out]; rfl⟩
   first
    | exact ⟨⟨i + 1, A8, c8, _, by omega, by go_num, HL10, O10, R10, PO10, B10⟩, by simp [intOf]; omega⟩
    | (refine ⟨?_, ?_⟩; exact ⟨i + 1, A8, c8, _, by omega, by go_num, HL10, O10, R10, PO10, B10⟩; simp [intOf]; omega)
  ·obtain rfl : i = n := by omega
   have c1 : decide ((i : Int) < (i : Int)) = false := decide_eq_false (by omega)
   have p0 := (blk_cell O3.out 0).trans rfl
   have p1 := (blk_cell O3.out 1).trans rfl
   have r0 := (blk_cell R3.out 0).trans rfl
   have r1 := (blk_cell R3.out 1).trans rfl
   have fr0 := blk_frozen R3.out 0
   have fr1 := blk_frozen R3.out 1
   by_cases hz0 : z = 0
   ·subst hz0
    go_wp2_with (go_at_call 84; refine (picture_spaceOf.calls sp (i : Int) 0 _ HE.out).mono ?_; rintro e w4 ⟨rfl, hd⟩; obtain ⟨nd, rfl⟩ := hd.out; clear hd)
    obtain ⟨w9, hw9⟩ : ∃ w9, w9 = ((wr.drewN nd).setCell ⟨gR, 0, none⟩ (.int .i64 sp)).setCell ⟨gR, 1, none⟩ (.slice Ap i cp) := ⟨_, rfl⟩
    rw [← hw9]
    obtain ⟨hG9, hst9, hbl9⟩ := put2 (blk_drewN R3.out nd) hw9
    have PO4 := PO3.out.below (pw_below_drewN (Below.refl _ _) nd)
    refine bodyPost_ret (results_ct rfl _ _ gR 47 #[.int .i64 sp, .slice Ap i cp] (0, 0) _ rfl hG9 Try.underlying47 rfl (by kernel_rfl)) rfl ?_
    have PO9 := PO4.keep hst9 (PO4.ne_row (blk_drewN R3.out nd) (by decide)) (PO4.ne_pl (blk_drewN R3.out nd) (by decide))
    exact ⟨⟨_, rfl, hs, PO9⟩, (pw_below_drewN B3.out nd).trans (hbl9 _ GR.out)⟩
   ·have tz : ((z : Int) != 0) = true := by rw [bne_iff_ne]; omega
    have tz2 : (z != 0) = true := by rw [bne_iff_ne]; exact hz0
    go_wp2_with (go_at_call 84; refine (picture_spaceOf.calls sp (i : Int) (z : Int) _ HE.out).mono ?_; rintro e w4 ⟨rfl, hd⟩; obtain ⟨nd, rfl⟩ := hd.out; clear hd)
    obtain ⟨w9, hw9⟩ : ∃ w9, w9 = ((wr.drewN nd).setCell ⟨gR, 0, none⟩ (.int .i64 0)).setCell ⟨gR, 1, none⟩ (.slice none 0 0) := ⟨_, rfl⟩
    rw [← hw9]
    obtain ⟨hG9, hst9, hbl9⟩ := put2 (blk_drewN R3.out nd) hw9
    refine bodyPost_ret (results_ct rfl _ _ gR 47 #[.int .i64 0, .slice none 0 0] (0, 0) _ rfl hG9 Try.underlying47 rfl (by kernel_rfl)) rfl ?_
    exact ⟨rfl, (pw_below_drewN B3.out nd).trans (hbl9 _ GR.out)⟩
end Go.Proofs.Ytbbebhdcfopmmaa.A
end
section
set_option linter.unusedVariables false
set_option linter.unusedSimpArgs false
namespace Go.Proofs.Ytbbebhdcfopmmaa.A
open Go.RowKit Go.Proofs.YtbbebhdcfopmmaaW.PrintWords Go.Proofs.YtbbebhdcfopmmaaW.PrintLast Go.Proofs.YtbbebhdcfopmmaaW.PrintMore Go.Proofs.Ytbbebhdcfopmmaa.PCodecNames

/-- what is wrong with a picture that is to be made -/
def newE (sp : Int) (n : Nat) (x y : Int) : Nat := if n < 1 ∨ 4 < n then 80 else if sizeB x y = true then spaceE sp n else 50
theorem New_any (sp x y : Int) (n s : Nat) (w : World) : Calls Try.prog 76 #[.int .i64 sp, .int .i64 (n : Int), .int .i64 x, .int .i64 y, .int .u32 (s : Int)] w fun e w' => ∃ (a : Int) (A : Option Addr) (m c : Nat), e = .returned (.tuple #[.agg #[.int .i64 a, .slice A m c], .int .i64 ((newE sp n x y : Nat) : Int)]) ∧ Below w.heap.size w w' := by
 unfold newE
 by_cases h1 : n < 1 ∨ 4 < n
 ·rw [if_pos h1]
  exact (New_form sp x y n s w h1).mono fun e w' h => ⟨0, none, 0, 0, h.1, h.2⟩
 ·rw [if_neg h1]
  by_cases h2 : sizeB x y = true
  ·rw [if_pos h2]
   obtain ⟨b1, b2, b3, b4, b5⟩ := sizeB_true h2
   obtain ⟨W, rfl⟩ : ∃ W : Nat, x = W := ⟨x.toNat, by omega⟩
   obtain ⟨H, rfl⟩ : ∃ H : Nat, y = H := ⟨y.toNat, by omega⟩
   refine (New_main sp n s W H w (by omega) (by omega) h2).mono ?_
   rintro e w' ⟨⟨vp, rfl, ha, hb⟩, hB⟩
   by_cases h3 : spaceE sp n = 0
   ·obtain ⟨hs, hP⟩ := ha h3
    obtain ⟨A, c, rfl⟩ := Kd.R_slice hP.row
    exact ⟨_, _, _, _, rfl, hB⟩
   ·obtain rfl := hb h3
    exact ⟨_, _, _, _, rfl, hB⟩
  ·rw [if_neg h2]
   exact (New_size sp x y n s w (by omega) (by omega) (by simpa using h2)).mono fun e w' h => ⟨0, none, 0, 0, h.1, h.2⟩
def mayB (sp pl x y sd : Nat) : Bool := decide (1 ≤ sd) && decide (sd ≤ 1024) && decide (newE (sp : Int) pl (x : Int) (y : Int) = 0)

set_option maxHeartbeats 2000000 in
set_option maxRecDepth 100000 in
theorem may_calls (sp pl x y sd : Nat) (w : World) : Calls Try.prog 95 #[.agg #[.int .i64 (sp : Int), .int .i64 (pl : Int), .int .i64 (x : Int), .int .i64 (y : Int), .int .i64 (sd : Int)]] w fun e w' => e = .returned (.bool (mayB sp pl x y sd)) ∧ Below w.heap.size w w' := by
 have hu60 := Try.underlying60
 have hu47 := Try.underlying47
 by_cases h1 : sd < 1
 ·have HE : Aside0 (mayB sp pl x y sd = false) := ⟨by unfold mayB; rw [decide_eq_false (by omega : ¬ 1 ≤ sd)]; rfl⟩
  have t1 : decide ((sd : Int) < 1) = true := decide_eq_true (by omega)
  have t2 : decide (sd < 1) = true := decide_eq_true h1

  go_enter Try.func95, Try.ntmps95
  go_wp2_with (((with_reducible refine gate_dst (N := 1) rfl ?_); refine box_event ?hg (N := 1) ?hd (cs := #[.int .i64 (sp : Int), .int .i64 (pl : Int), .int .i64 (x : Int), .int .i64 (y : Int), .int .i64 (sd : Int)]) (t := 60) ?hr ?_; (case hd => rfl); (case hg => rfl); (case hr => first | (go_simp; done) | (go_simp; rfl)); intro gh hg_ w1 hm_ hb_; have B1 := Aside0.mk (hb_); have H1 := Aside0.mk (hm_); have h0 := (blk_cell H1.out 0).trans rfl; have h1 := (blk_cell H1.out 1).trans rfl; have h2 := (blk_cell H1.out 2).trans rfl; have h3 := (blk_cell H1.out 3).trans rfl; have h4 := (blk_cell H1.out 4).trans rfl; clear hm_ hb_ hg_))
  go_ret
  exact ⟨by rw [HE.out]; rfl, B1.out⟩
 ·by_cases h2 : 1024 < sd
  ·have HE : Aside0 (mayB sp pl x y sd = false) := ⟨by unfold mayB; rw [decide_eq_false (by omega : ¬ sd ≤ 1024), Bool.and_false]; rfl⟩
   have t1 : decide ((sd : Int) < 1) = false := decide_eq_false (by omega)
   have t2 : decide (sd < 1) = false := decide_eq_false h1
   have t3 : decide (1024 < sd) = true := decide_eq_true h2
   have t4 : decide (1024 < (sd : Int)) = true := decide_eq_true (by omega)
   go_enter Try.func95, Try.ntmps95
   go_wp2_with (((with_reducible refine gate_dst (N := 1) rfl ?_); refine box_event ?hg (N := 1) ?hd (cs := #[.int .i64 (sp : Int), .int .i64 (pl : Int), .int .i64 (x : Int), .int .i64 (y : Int), .int .i64 (sd : Int)]) (t := 60) ?hr ?_; (case hd => rfl); (case hg => rfl); (case hr => first | (go_simp; done) | (go_simp; rfl)); intro gh hg_ w1 hm_ hb_; have B1 := Aside0.mk (hb_); have H1 := Aside0.mk (hm_); have h0 := (blk_cell H1.out 0).trans rfl; have h1 := (blk_cell H1.out 1).trans rfl; have h2 := (blk_cell H1.out 2).trans rfl; have h3 := (blk_cell H1.out 3).trans rfl; have h4 := (blk_cell H1.out 4).trans rfl; clear hm_ hb_ hg_))
   go_ret
   exact ⟨by rw [HE.out]; rfl, B1.out⟩
  ·obtain ⟨z, hz⟩ : ∃ z, z = newE (sp : Int) pl (x : Int) (y : Int) := ⟨_, rfl⟩
   have HZ := Aside0.mk hz
   have HE : Aside0 (mayB sp pl x y sd = decide (z = 0)) := ⟨by unfold mayB; rw [decide_eq_true (by omega : 1 ≤ sd), decide_eq_true (by omega : sd ≤ 1024), ← hz]; rfl⟩
   have t1 : decide ((sd : Int) < 1) = false := decide_eq_false (by omega)
   have t2 : decide (sd < 1) = false := decide_eq_false h1
   have t3 : decide (1024 < sd) = false := decide_eq_false h2
   have t4 : decide (1024 < (sd : Int)) = false := decide_eq_false (by omega)
   have tz : ((z : Int) == 0) = decide (z = 0) := by
    by_cases h : z = 0
    ·rw [decide_eq_true h, beq_iff_eq]; omega
    ·rw [decide_eq_false h, beq_eq_false_iff_ne]; omega
   clear hz
   go_enter Try.func95, Try.ntmps95
   go_wp2_with (first | ((with_reducible refine gate_dst (N := 1) rfl ?_); refine box_event ?hg (N := 1) ?hd (cs := #[.int .i64 (sp : Int), .int .i64 (pl : Int), .int .i64 (x : Int), .int .i64 (y : Int), .int .i64 (sd : Int)]) (t := 60) ?hr ?_; (case hd => rfl); (case hg => rfl); (case hr => first | (go_simp; done) | (go_simp; rfl)); intro gh hg_ w1 hm_ hb_; have B1 := Aside0.mk (hb_); have H1 := Aside0.mk (hm_); have h0 := (blk_cell H1.out 0).trans rfl; have h1 := (blk_cell H1.out 1).trans rfl; have h2 := (blk_cell H1.out 2).trans rfl; have h3 := (blk_cell H1.out 3).trans rfl; have h4 := (blk_cell H1.out 4).trans rfl; clear hm_ hb_ hg_) | (go_at_call 76; refine (New_any (sp : Int) (x : Int) (y : Int) pl 0 _).mono ?_; rw [← HZ.out]; rintro e w2 ⟨a, A, m, c, rfl, hb⟩; have B2 := Aside0.mk (below_step B1.out hb); clear hb) | ((with_reducible refine gate_dst (N := 3) rfl ?_); refine box_event ?hg (N := 3) ?hd (cs := #[.int .i64 0, .slice none 0 0]) (t := 47) ?hr ?_; (case hd => rfl); (case hg => rfl); (case hr => first | (go_simp; done) | (go_simp; rfl)); intro gn hg_ w3 hm_ hb_; have N3 := Aside0.mk (hm_); have B3 := Aside0.mk (below_step B2.out hb_); have GN := Aside0.mk (show w.heap.size ≤ gn by rw [hg_]; exact below_size B2.out); have o0 := (blk_cell N3.out 0).trans rfl; have o1 := (blk_cell N3.out 1).trans rfl; have fo0 := blk_frozen N3.out 0; have fo1 := blk_frozen N3.out 1; clear hm_ hb_ hg_))
   go_ret
   refine ⟨by rw [HE.out]; first | rfl | (simp; done), ?_⟩
   exact (B3.out.setCell (p := ⟨gn, 0, none⟩) GN.out _).setCell (p := ⟨gn, 1, none⟩) GN.out _
end Go.Proofs.Ytbbebhdcfopmmaa.A
end
section
set_option linter.unusedVariables false
set_option linter.unusedSimpArgs false
namespace Go.Proofs.Ytbbebhdcfopmmaa.A
open Go.RowKit Go.Proofs.YtbbebhdcfopmmaaW.PrintWords Go.Proofs.YtbbebhdcfopmmaaW.PrintLast Go.Proofs.YtbbebhdcfopmmaaW.PrintMore Go.Proofs.Ytbbebhdcfopmmaa.PCodecNames

def hSp (b : List Nat) : Nat := numL 0 (subN (subN b 0 12) 4 1)
def hPl (b : List Nat) : Nat := numL 0 (subN (subN b 0 12) 5 1)
def hW (b : List Nat) : Nat := numL 0 (subN (subN b 0 12) 6 2)
def hH (b : List Nat) : Nat := numL 0 (subN (subN b 0 12) 8 2)
def hS (b : List Nat) : Nat := numL 0 (subN (subN b 0 12) 10 2)
def hMay (b : List Nat) : Bool := mayB (hSp b) (hPl b) (hW b) (hH b) (hS b)
def hMagic (b : List Nat) : Bool := decide (gt b 0 = 72) && decide (gt b 1 = 76) && decide (gt b 2 = 68) && decide (gt b 3 = 49)
/-- how many parts there are -/
def hK (b : List Nat) : Nat := tilesN (hW b) (hH b) (hS b) * hPl b
def hN (b : List Nat) : Nat := 4 * tilesN (hW b) (hH b) (hS b) * hPl b
def openE (b : List Nat) : Nat :=
 if 4194304 < b.length then 184 else if b.length < 12 then 182 else if ¬ (hMagic b = true ∧ hMay b = true) then 181
 else if b.length < 12 + hN b then 182 else if b.length < 16 + hN b then 182 else if numL 0 (subN b (12 + hN b) 4) ≠ crc (b.take (12 + hN b)) then 183 else 0
def idxTo (b : List Nat) (n : Nat) : List Nat := (List.range n).map (fun i => numL 0 (subN b (12 + 4 * i) 4))
section
variable {g : Nat} {ad : Addr} {b : List Nat} {w : World}
theorem cell_new1 {W : World} {g : Nat} {v : Value} {t : TypeId} (h : W.heap[g]? = some (.cells #[v] t (0, 0))) : W.cell? ⟨g, 0, none⟩ = some v := (blk_cell h 0).trans rfl
theorem cell_at2a {W : World} {g : Nat} {u v : Value} {t : TypeId} (h : W.heap[g]? = some (.cells #[u, v] t (0, 0))) : W.cell? ⟨g, 0, none⟩ = some u := (blk_cell h 0).trans rfl
theorem cell_at2b {W : World} {g : Nat} {u v : Value} {t : TypeId} (h : W.heap[g]? = some (.cells #[u, v] t (0, 0))) : W.cell? ⟨g, 0 + 1, none⟩ = some v := (blk_cell h 1).trans rfl
theorem num45 (hg : w.cell? ⟨g, 0, none⟩ = some (.slice (some ad) 12 12)) (hC : (nat .u8).C w (some ad) b.length b) (h8 : ∀ i, gt b i < 256) (h12 : b.length = 12) : Calls Try.prog 93 #[.int .i64 4, .int .i64 5, .pointer (some ⟨g, 0, none⟩)] w fun e w' => e = .returned (.int .i64 ((numL 0 (subN b 4 1) : Nat) : Int)) ∧ Below w.heap.size w w' := num_calls g 12 4 5 ad b w (by rw [h12]; exact hg) hC (by omega) h8 (by omega) (by omega) (by omega)
theorem num56 (hg : w.cell? ⟨g, 0, none⟩ = some (.slice (some ad) 12 12)) (hC : (nat .u8).C w (some ad) b.length b) (h8 : ∀ i, gt b i < 256) (h12 : b.length = 12) : Calls Try.prog 93 #[.int .i64 5, .int .i64 6, .pointer (some ⟨g, 0, none⟩)] w fun e w' => e = .returned (.int .i64 ((numL 0 (subN b 5 1) : Nat) : Int)) ∧ Below w.heap.size w w' := num_calls g 12 5 6 ad b w (by rw [h12]; exact hg) hC (by omega) h8 (by omega) (by omega) (by omega)
theorem num68 (hg : w.cell? ⟨g, 0, none⟩ = some (.slice (some ad) 12 12)) (hC : (nat .u8).C w (some ad) b.length b) (h8 : ∀ i, gt b i < 256) (h12 : b.length = 12) : Calls Try.prog 93 #[.int .i64 6, .int .i64 8, .pointer (some ⟨g, 0, none⟩)] w fun e w' => e = .returned (.int .i64 ((numL 0 (subN b 6 2) : Nat) : Int)) ∧ Below w.heap.size w w' := num_calls g 12 6 8 ad b w (by rw [h12]; exact hg) hC (by omega) h8 (by omega) (by omega) (by omega)
theorem num810 (hg : w.cell? ⟨g, 0, none⟩ = some (.slice (some ad) 12 12)) (hC : (nat .u8).C w (some ad) b.length b) (h8 : ∀ i, gt b i < 256) (h12 : b.length = 12) : Calls Try.prog 93 #[.int .i64 8, .int .i64 10, .pointer (some ⟨g, 0, none⟩)] w fun e w' => e = .returned (.int .i64 ((numL 0 (subN b 8 2) : Nat) : Int)) ∧ Below w.heap.size w w' := num_calls g 12 8 10 ad b w (by rw [h12]; exact hg) hC (by omega) h8 (by omega) (by omega) (by omega)
theorem num1012 (hg : w.cell? ⟨g, 0, none⟩ = some (.slice (some ad) 12 12)) (hC : (nat .u8).C w (some ad) b.length b) (h8 : ∀ i, gt b i < 256) (h12 : b.length = 12) : Calls Try.prog 93 #[.int .i64 10, .int .i64 12, .pointer (some ⟨g, 0, none⟩)] w fun e w' => e = .returned (.int .i64 ((numL 0 (subN b 10 2) : Nat) : Int)) ∧ Below w.heap.size w w' := num_calls g 12 10 12 ad b w (by rw [h12]; exact hg) hC (by omega) h8 (by omega) (by omega) (by omega)
end
theorem arrayAt4 (ad : Addr) (c : Nat) (w : World) : (Instr.arrayAt 106 (.slice (some ad) 4 c)).run Try.prog w = .ok (.pointer (some ad)) w := by
 have hu : Try.prog.underlying 106 = some (TypeDesc.array 4 5) := Try.underlying106
 simp [Instr.arrayAt, run_underlying hu]
theorem eq106 (a b c d x y z t : Int) (w : World) : (Op.equalIn 10000 106 (.agg #[.int .u8 a, .int .u8 b, .int .u8 c, .int .u8 d]) (.agg #[.int .u8 x, .int .u8 y, .int .u8 z, .int .u8 t])).run Try.prog w = .ok (a == x && b == y && c == z && d == t) w := by
 have u5 := Try.underlying5
 have a5 := Try.isAgg5
 have z5 := Try.sizeOf5
 have u106 : Try.prog.underlying 106 = some (TypeDesc.array 4 5) := Try.underlying106
 rw [show (10000 : Nat) = 9999 + 1 from rfl, Op.equalIn]
 simp only [Sem.run_bind, run_underlying u106, Result.andThen_ok]
 simp only [Std.Legacy.Range.forIn_eq_forIn_range', Std.Legacy.Range.size, Nat.sub_zero, Nat.add_sub_cancel, Nat.div_one, List.range'_succ, List.range'_zero, List.forIn_cons, List.forIn_nil]
 go_simp
 by_cases h1 : a = x <;> by_cases h2 : b = y <;> by_cases h3 : c = z <;> by_cases h4 : d = t <;> simp [h1, h2, h3, h4]
theorem put9 {w3 w4 : World} {g : Nat} {t : TypeId} {a0 a1 a2 a3 a4 a5 a6 a7 a8 x0 x1 x2 x3 x4 x5 x6 x7 x8 : Value} (hP : w3.heap[g]? = some (.cells #[a0, a1, a2, a3, a4, a5, a6, a7, a8] t (0, 0))) (h : w4 = ((((((((w3.setCell ⟨g, 0, none⟩ x0).setCell ⟨g, 1, none⟩ x1).setCell ⟨g, 2, none⟩ x2).setCell ⟨g, 3, none⟩ x3).setCell ⟨g, 4, none⟩ x4).setCell ⟨g, 5, none⟩ x5).setCell ⟨g, 6, none⟩ x6).setCell ⟨g, 7, none⟩ x7).setCell ⟨g, 8, none⟩ x8) :
    w4.heap[g]? = some (.cells #[x0, x1, x2, x3, x4, x5, x6, x7, x8] t (0, 0)) ∧ (∀ k, k ≠ g → w4.heap[k]? = w3.heap[k]?) ∧ (∀ B, B ≤ g → Below B w3 w4) := by
 subst h
 have h0 : (w3.setCell ⟨g, 0, none⟩ x0).heap[g]? = some (.cells #[x0, a1, a2, a3, a4, a5, a6, a7, a8] t (0, 0)) := (blk_set hP 0 x0).trans rfl
 have h1 : ((w3.setCell ⟨g, 0, none⟩ x0).setCell ⟨g, 1, none⟩ x1).heap[g]? = some (.cells #[x0, x1, a2, a3, a4, a5, a6, a7, a8] t (0, 0)) := (blk_set h0 1 x1).trans rfl
 have h2 : (((w3.setCell ⟨g, 0, none⟩ x0).setCell ⟨g, 1, none⟩ x1).setCell ⟨g, 2, none⟩ x2).heap[g]? = some (.cells #[x0, x1, x2, a3, a4, a5, a6, a7, a8] t (0, 0)) := (blk_set h1 2 x2).trans rfl
 have h3 : ((((w3.setCell ⟨g, 0, none⟩ x0).setCell ⟨g, 1, none⟩ x1).setCell ⟨g, 2, none⟩ x2).setCell ⟨g, 3, none⟩ x3).heap[g]? = some (.cells #[x0, x1, x2, x3, a4, a5, a6, a7, a8] t (0, 0)) := (blk_set h2 3 x3).trans rfl
 have h4 : (((((w3.setCell ⟨g, 0, none⟩ x0).setCell ⟨g, 1, none⟩ x1).setCell ⟨g, 2, none⟩ x2).setCell ⟨g, 3, none⟩ x3).setCell ⟨g, 4, none⟩ x4).heap[g]? = some (.cells #[x0, x1, x2, x3, x4, a5, a6, a7, a8] t (0, 0)) := (blk_set h3 4 x4).trans rfl
 have h5 : ((((((w3.setCell ⟨g, 0, none⟩ x0).setCell ⟨g, 1, none⟩ x1).setCell ⟨g, 2, none⟩ x2).setCell ⟨g, 3, none⟩ x3).setCell ⟨g, 4, none⟩ x4).setCell ⟨g, 5, none⟩ x5).heap[g]? = some (.cells #[x0, x1, x2, x3, x4, x5, a6, a7, a8] t (0, 0)) := (blk_set h4 5 x5).trans rfl
 have h6 : (((((((w3.setCell ⟨g, 0, none⟩ x0).setCell ⟨g, 1, none⟩ x1).setCell ⟨g, 2, none⟩ x2).setCell ⟨g, 3, none⟩ x3).setCell ⟨g, 4, none⟩ x4).setCell ⟨g, 5, none⟩ x5).setCell ⟨g, 6, none⟩ x6).heap[g]? = some (.cells #[x0, x1, x2, x3, x4, x5, x6, a7, a8] t (0, 0)) := (blk_set h5 6 x6).trans rfl
 have h7 : ((((((((w3.setCell ⟨g, 0, none⟩ x0).setCell ⟨g, 1, none⟩ x1).setCell ⟨g, 2, none⟩ x2).setCell ⟨g, 3, none⟩ x3).setCell ⟨g, 4, none⟩ x4).setCell ⟨g, 5, none⟩ x5).setCell ⟨g, 6, none⟩ x6).setCell ⟨g, 7, none⟩ x7).heap[g]? = some (.cells #[x0, x1, x2, x3, x4, x5, x6, x7, a8] t (0, 0)) := (blk_set h6 7 x7).trans rfl
 have h8 : (((((((((w3.setCell ⟨g, 0, none⟩ x0).setCell ⟨g, 1, none⟩ x1).setCell ⟨g, 2, none⟩ x2).setCell ⟨g, 3, none⟩ x3).setCell ⟨g, 4, none⟩ x4).setCell ⟨g, 5, none⟩ x5).setCell ⟨g, 6, none⟩ x6).setCell ⟨g, 7, none⟩ x7).setCell ⟨g, 8, none⟩ x8).heap[g]? = some (.cells #[x0, x1, x2, x3, x4, x5, x6, x7, x8] t (0, 0)) := (blk_set h7 8 x8).trans rfl
 refine ⟨h8, fun k hk => ?_, fun B hB => ?_⟩
 ·iterate 8 (refine (Below.heap_setCell _ _ _ k hk).trans ?_)
  exact Below.heap_setCell _ _ _ k hk
 ·exact ((((((((((Below.refl B w3).setCell (p := ⟨g, 0, none⟩) hB x0).setCell (p := ⟨g, 1, none⟩) hB x1).setCell (p := ⟨g, 2, none⟩) hB x2).setCell (p := ⟨g, 3, none⟩) hB x3).setCell (p := ⟨g, 4, none⟩) hB x4).setCell (p := ⟨g, 5, none⟩) hB x5).setCell (p := ⟨g, 6, none⟩) hB x6).setCell (p := ⟨g, 7, none⟩) hB x7).setCell (p := ⟨g, 8, none⟩) hB x8)
/-- what take leaves -/
theorem takeW {w w1 : World} {g o k : Nat} {v : Value} {cs : Array Value} {t : TypeId} (hP : w.heap[g]? = some (.cells cs t (0, 0))) (h : w1 = (w.drewN k).setCell ⟨g, o, none⟩ v) :
    w1.heap[g]? = some (.cells (cs.setIfInBounds o v) t (0, 0)) ∧ (∀ j, j ≠ g → w1.heap[j]? = w.heap[j]?) ∧ (∀ B, B ≤ g → Below B w w1) := by
 subst h
 exact ⟨blk_set (blk_drewN hP k) o v, fun j hj => Below.heap_setCell _ _ _ j hj, fun B hB => (pw_below_drewN (Below.refl B w) k).setCell (p := ⟨g, o, none⟩) hB v⟩

def OpenPost (w : World) (b : List Nat) (A : Option Addr) (cap : Nat) (e : Ending) (w1 : World) : Prop :=
 Below w.heap.size w w1 ∧ ((openE b ≠ 0 ∧ e = .returned (.tuple #[.agg #[.int .i64 0, .int .i64 0, .int .i64 0, .int .i64 0, .int .i64 0, .pointer none, .slice none 0 0, .slice none 0 0, .int .i64 0], .int .i64 ((openE b : Nat) : Int)])) ∨
  (openE b = 0 ∧ ∃ gT vi, e = .returned (.tuple #[.agg #[.int .i64 (hSp b : Int), .int .i64 (hPl b : Int), .int .i64 (hW b : Int), .int .i64 (hH b : Int), .int .i64 (hS b : Int), .pointer (some ⟨gT, 0, none⟩), vi, .slice A b.length cap, .int .i64 ((16 + hN b : Nat) : Int)], .int .i64 0]) ∧ w.heap.size ≤ gT ∧ TB w1 gT ∧ (nat .i64).R 3 w1 w.heap.size (fun _ => True) vi (idxTo b (hK b))))
set_option maxHeartbeats 4000000 in
set_option maxRecDepth 100000 in
theorem opened_long (A : Option Addr) (cap : Nat) (b : List Nat) (w : World) (hl : 4194304 < b.length) (hl2 : b.length < 4611686018427387904) :
    Calls Try.prog 75 #[.slice A b.length cap] w fun e w1 => OpenPost w b A cap e w1 := by
 have HE : openE b = 184 := by unfold openE; rw [if_pos hl]
 have t1 : decide (4194304 < b.length) = true := decide_eq_true hl
 have t2 : decide (4194304 < (b.length : Int)) = true := decide_eq_true (by omega)
 have HEA := Aside0.mk HE
 unfold OpenPost
 clear hl hl2 HE
 go_enter Try.func75, Try.ntmps75
 go_wp2_with (((with_reducible refine gate_dst (N := 2) rfl ?_); refine box_event ?hg (N := 2) ?hd (cs := #[.int .i64 0, .int .i64 0, .int .i64 0, .int .i64 0, .int .i64 0, .pointer none, .slice none 0 0, .slice none 0 0, .int .i64 0]) (t := 121) ?hr ?_; (case hd => rfl); (case hg => rfl); (case hr => first | (go_simp; done) | (go_simp; rfl)); intro gR hg_ w1 hm_ hb_; have R1 := Aside0.mk (hm_); have B1 := Aside0.mk (hb_); have GR := Aside0.mk (show w.heap.size ≤ gR by rw [hg_]; exact Nat.le_refl _); have o0 := (blk_cell R1.out 0).trans rfl; have o1 := (blk_cell R1.out 1).trans rfl; have o2 := (blk_cell R1.out 2).trans rfl; have o3 := (blk_cell R1.out 3).trans rfl; have o4 := (blk_cell R1.out 4).trans rfl; have o5 := (blk_cell R1.out 5).trans rfl; have o6 := (blk_cell R1.out 6).trans rfl; have o7 := (blk_cell R1.out 7).trans rfl; have o8 := (blk_cell R1.out 8).trans rfl; have fo0 := blk_frozen R1.out 0; have fo1 := blk_frozen R1.out 1; have fo2 := blk_frozen R1.out 2; have fo3 := blk_frozen R1.out 3; have fo4 := blk_frozen R1.out 4; have fo5 := blk_frozen R1.out 5; have fo6 := blk_frozen R1.out 6; have fo7 := blk_frozen R1.out 7; have fo8 := blk_frozen R1.out 8; clear hm_ hb_ hg_))
 obtain ⟨wz, hwz⟩ : ∃ wz, wz = (((((((((w1.setCell ⟨gR, 0, none⟩ (.int .i64 0)).setCell ⟨gR, 1, none⟩ (.int .i64 0)).setCell ⟨gR, 2, none⟩ (.int .i64 0)).setCell ⟨gR, 3, none⟩ (.int .i64 0)).setCell ⟨gR, 4, none⟩ (.int .i64 0)).setCell ⟨gR, 5, none⟩ (.pointer none)).setCell ⟨gR, 6, none⟩ (.slice none 0 0)).setCell ⟨gR, 7, none⟩ (.slice none 0 0)).setCell ⟨gR, 8, none⟩ (.int .i64 0)) := ⟨_, rfl⟩
 rw [← hwz]
 obtain ⟨hGz, hstz, hblz⟩ := put9 R1.out hwz
 refine bodyPost_ret (results_ct rfl _ _ gR 121 #[.int .i64 0, .int .i64 0, .int .i64 0, .int .i64 0, .int .i64 0, .pointer none, .slice none 0 0, .slice none 0 0, .int .i64 0] (0, 0) _ rfl hGz Try.underlying121 rfl (by kernel_rfl)) rfl ?_
 exact ⟨B1.out.trans (hblz _ GR.out), .inl ⟨by rw [HEA.out]; decide, by rw [HEA.out]; rfl⟩⟩

theorem take12_short (g cap : Nat) (A : Option Addr) (b : List Nat) (w : World) (c0 : w.cell? ⟨g, 0, none⟩ = some (.slice A b.length cap)) (c1 : w.cell? ⟨g, 1, none⟩ = some (.int .i64 0)) (hl : b.length < 12) :
    Calls Try.prog 92 #[.pointer (some ⟨g, 0, none⟩), .int .i64 12] w fun e w' => e = .returned (.tuple #[.slice none 0 0, .bool false]) ∧ Below w.heap.size w w' := take_short g 0 12 0 cap A b w c0 c1 (by omega) (by omega) (by omega) (by omega)
theorem take4_short (g o at_ cap : Nat) (A : Option Addr) (b : List Nat) (w : World) (c0 : w.cell? ⟨g, o, none⟩ = some (.slice A b.length cap)) (c1 : w.cell? ⟨g, o + 1, none⟩ = some (.int .i64 (at_ : Int))) (hat : at_ ≤ b.length) (hl : b.length < 4611686018427387904) (hn : b.length < at_ + 4) :
    Calls Try.prog 92 #[.pointer (some ⟨g, o, none⟩), .int .i64 4] w fun e w' => e = .returned (.tuple #[.slice none 0 0, .bool false]) ∧ Below w.heap.size w w' := take_short g o 4 at_ cap A b w c0 c1 hat hl hn (by omega)
theorem take4 (g o at_ cap : Nat) (ad : Addr) (b : List Nat) (w0 w : World) (hC : (nat .u8).C w0 (some ad) b.length b) (c0 : w.cell? ⟨g, o, none⟩ = some (.slice (some ad) b.length cap)) (c1 : w.cell? ⟨g, o + 1, none⟩ = some (.int .i64 (at_ : Int))) (f1 : w.frozen? ⟨g, o + 1, none⟩ = false) (hcap : b.length ≤ cap) (hl : b.length < 4611686018427387904) (hn : at_ + 4 ≤ b.length) :
    Calls Try.prog 92 #[.pointer (some ⟨g, o, none⟩), .int .i64 4] w fun e w' => ∃ A1 k, e = .returned (.tuple #[.slice A1 4 4, .bool true]) ∧ (nat .u8).C w0 A1 4 (subN b at_ 4) ∧ w' = (w.drewN k).setCell ⟨g, o + 1, none⟩ (.int .i64 ((at_ + 4 : Nat) : Int)) := take_calls g o 4 at_ cap ad b w0 w hC c0 c1 f1 hcap (by omega) hl hn
theorem number4 {A : Option Addr} {c : Nat} {l : List Nat} {w : World} (hl : l.length = 4) (hC : (nat .u8).C w A 4 l) (hc : 4 ≤ c) (h8 : ∀ i, gt l i < 256) :
    Calls Try.prog 94 #[.slice A 4 c] w fun e w' => e = .returned (.int .i64 ((numL 0 l : Nat) : Int)) ∧ Below w.heap.size w w' := by
 have h := number_own (A := A) (c := c) (l := l) (w := w) (by rw [hl]; exact hC) (by rw [hl]; exact hc) (by omega) h8
 rw [hl] at h
 exact h
theorem numL4_lt {l : List Nat} (hl : l.length = 4) (h8 : ∀ i, gt l i < 256) : numL 0 l < 4294967296 := by
 obtain ⟨a, b, c, d, rfl⟩ : ∃ a b c d, l = [a, b, c, d] := by
  match l, hl with
  | [a, b, c, d], _ => exact ⟨a, b, c, d, rfl⟩
 have h0 := h8 0; have h1 := h8 1; have h2 := h8 2; have h3 := h8 3
 simp only [gt, List.getD_cons_zero, List.getD_cons_succ] at h0 h1 h2 h3
 simp only [numL, List.foldl]
 omega
theorem sum_at {g n cap : Nat} {ad : Addr} {b : List Nat} {w : World} (hT : TB w g) (hC : (nat .u8).C w (some ad) b.length b) (hn : n ≤ b.length) (hcap : b.length ≤ cap) (h8 : ∀ i, gt b i < 256) (hl : b.length < 1152921504606846976) :
    Calls Try.prog 46 #[.pointer (some ⟨g, 0, none⟩), .slice (some ad) n cap] w fun e w' => e = .returned (.int .u32 ((crc (b.take n) : Nat) : Int)) ∧ Below w.heap.size w w' := by
 have hlen : (b.take n).length = n := by rw [List.length_take]; omega
 have hCt : (nat .u8).C w (some ad) (b.take n).length (b.take n) := by
  have h := C_sub (i := 0) (n := n) hC (by omega)
  rw [hlen]
  have e : ad.add 0 = ad := rfl
  rw [List.drop_zero] at h
  exact h
 have h := sum_calls g (some ad) cap (b.take n) w hT hCt (by rw [hlen]; omega) (gt_lt_of (by decide) (fun x hx => mem_lt_of h8 x (List.mem_of_mem_take hx))) (by rw [hlen]; omega)
 rw [hlen] at h
 exact h
theorem subN_subN (b : List Nat) {i n j m : Nat} (h : j + m ≤ n) : subN (subN b i n) j m = subN b (i + j) m := by
 unfold subN
 rw [List.drop_take, List.take_take, List.drop_drop, Nat.min_eq_left (by omega)]
theorem info3 : (Try.prog.info? 3).map (fun i => (i.zero, i.size, i.bytes)) = some (some (.int .i64 0), 1, 8) := by kernel_rfl
theorem idxTo_succ (b : List Nat) (n : Nat) : idxTo b (n + 1) = idxTo b n ++ [numL 0 (subN b (12 + 4 * n) 4)] := by unfold idxTo; rw [List.range_succ, List.map_append]; rfl
theorem idxTo_length (b : List Nat) (n : Nat) : (idxTo b n).length = n := by simp [idxTo]
theorem mayB_true {sp pl x y sd : Nat} (h : mayB sp pl x y sd = true) : 1 ≤ sd ∧ sd ≤ 1024 ∧ 1 ≤ pl ∧ pl ≤ 4 ∧ 1 ≤ x ∧ 1 ≤ y ∧ x ≤ 1024 ∧ y ≤ 1024 ∧ x * y ≤ 65536 ∧ spaceE (sp : Int) pl = 0 := by
 unfold mayB at h
 simp only [Bool.and_eq_true, decide_eq_true_eq] at h
 obtain ⟨⟨h1, h2⟩, h3⟩ := h
 unfold newE at h3
 by_cases h4 : pl < 1 ∨ 4 < pl
 ·rw [if_pos h4] at h3; exact absurd h3 (by decide)
 ·rw [if_neg h4] at h3
  by_cases h5 : sizeB (x : Int) (y : Int) = true
  ·rw [if_pos h5] at h3
   obtain ⟨b1, b2, b3, b4, b5⟩ := sizeB_true h5
   have b6 : ((x * y : Nat) : Int) ≤ 65536 := by simpa using b5
   exact ⟨h1, h2, by omega, by omega, by omega, by omega, by omega, by omega, by omega, h3⟩
  ·rw [if_neg h5] at h3; exact absurd h3 (by decide)
theorem take12 (g cap : Nat) (ad : Addr) (b : List Nat) (w0 w : World) (hC : (nat .u8).C w0 (some ad) b.length b) (c0 : w.cell? ⟨g, 0, none⟩ = some (.slice (some ad) b.length cap)) (c1 : w.cell? ⟨g, 1, none⟩ = some (.int .i64 0)) (f1 : w.frozen? ⟨g, 1, none⟩ = false) (hcap : b.length ≤ cap) (hl : b.length < 4611686018427387904) (hn : 12 ≤ b.length) :
    Calls Try.prog 92 #[.pointer (some ⟨g, 0, none⟩), .int .i64 12] w fun e w' => ∃ A1 k, e = .returned (.tuple #[.slice A1 12 12, .bool true]) ∧ (nat .u8).C w0 A1 12 (subN b 0 12) ∧ w' = (w.drewN k).setCell ⟨g, 1, none⟩ (.int .i64 12) := take_calls g 0 12 0 cap ad b w0 w hC c0 c1 f1 hcap (by omega) hl (by omega)

set_option maxHeartbeats 4000000 in
set_option maxRecDepth 100000 in
theorem opened_short (A : Option Addr) (cap : Nat) (b : List Nat) (w : World) (hl : b.length < 12) :
    Calls Try.prog 75 #[.slice A b.length cap] w fun e w1 => OpenPost w b A cap e w1 := by
 have HE : openE b = 182 := by unfold openE; rw [if_neg (by omega), if_pos hl]
 have t1 : decide (4194304 < b.length) = false := decide_eq_false (by omega)
 have t2 : decide (4194304 < (b.length : Int)) = false := decide_eq_false (by omega)
 have HEA := Aside0.mk HE
 have HL := Aside0.mk hl
 unfold OpenPost
 clear hl HE
 go_enter Try.func75, Try.ntmps75
 go_wp2_with (first | ((with_reducible refine gate_dst (N := 2) rfl ?_); refine box_event ?hg (N := 2) ?hd (cs := #[.int .i64 0, .int .i64 0, .int .i64 0, .int .i64 0, .int .i64 0, .pointer none, .slice none 0 0, .slice none 0 0, .int .i64 0]) (t := 121) ?hr ?_; (case hd => rfl); (case hg => rfl); (case hr => first | (go_simp; done) | (go_simp; rfl)); intro gR hg_ w1 hm_ hb_; have R1 := Aside0.mk (hm_); have B1 := Aside0.mk (hb_); have GR := Aside0.mk (show w.heap.size ≤ gR by rw [hg_]; exact Nat.le_refl _); clear hm_ hb_ hg_) | ((with_reducible refine gate_dst (N := 4) rfl ?_); refine box_event ?hg (N := 4) ?hd (cs := #[.slice none 0 0, .int .i64 0]) (t := 119) ?hr ?_; (case hd => rfl); (case hg => rfl); (case hr => first | (go_simp; done) | (go_simp; rfl)); intro gr hg_ w2 hm_ hb_; have R2 := Aside0.mk (blk_below R1.out hb_); have G2 := Aside0.mk (hm_); have B2 := Aside0.mk (below_step B1.out hb_); have GR4 := Aside0.mk (show w.heap.size ≤ gr by rw [hg_]; exact below_size B1.out); have NR := Aside0.mk (blk_ne R2.out G2.out (by decide)); have o0 := (blk_cell G2.out 0).trans rfl; have o1 := (blk_cell G2.out 1).trans rfl; have fo0 := blk_frozen G2.out 0; have fo1 := blk_frozen G2.out 1; have X2 := Aside0.mk (put2 (x := .slice A b.length cap) (y := .int .i64 0) G2.out rfl); have R2b := Aside0.mk ((X2.out.2.1 gR NR.out).trans R2.out); have B2b := Aside0.mk (B2.out.trans (X2.out.2.2 _ GR4.out)); clear hm_ hb_ hg_) | (go_at_call 92; refine (take12_short gr cap A b _ ?h1 ?h2 HL.out).mono ?_; (case h1 => exact (blk_cell X2.out.1 0).trans rfl); (case h2 => exact (blk_cell X2.out.1 1).trans rfl); rintro e w3 ⟨rfl, hb⟩; have R3 := Aside0.mk (blk_below R2b.out hb); have B3 := Aside0.mk (below_step B2b.out hb); clear hb) | ((with_reducible refine gate_dst (N := 5) rfl ?_); refine box_event ?hg (N := 5) ?hd (cs := #[.slice none 0 0]) (t := 23) ?hr ?_; (case hd => rfl); (case hg => rfl); (case hr => first | (go_simp; done) | (go_simp; rfl)); intro gh hg_ w4 hm_ hb_; have R4 := Aside0.mk (blk_below R3.out hb_); have H4 := Aside0.mk (hm_); have B4 := Aside0.mk (below_step B3.out hb_); have GH := Aside0.mk (show w.heap.size ≤ gh by rw [hg_]; exact below_size B3.out); have NRH := Aside0.mk (blk_ne R4.out H4.out (by decide)); have h0 := (blk_cell H4.out 0).trans rfl; have fh0 := blk_frozen H4.out 0; have R5 := Aside0.mk (show (w4.setCell ⟨gh, 0, none⟩ (.slice none 0 0)).heap[gR]? = some (.cells #[.int .i64 0, .int .i64 0, .int .i64 0, .int .i64 0, .int .i64 0, .pointer none, .slice none 0 0, .slice none 0 0, .int .i64 0] 121 (0, 0)) from (Below.heap_setCell _ _ _ gR NRH.out).trans R4.out); have B5 := Aside0.mk (show Below w.heap.size w (w4.setCell ⟨gh, 0, none⟩ (.slice none 0 0)) from B4.out.setCell (p := ⟨gh, 0, none⟩) GH.out _); have z0 := (blk_cell R5.out 0).trans rfl; have z1 := (blk_cell R5.out 1).trans rfl; have z2 := (blk_cell R5.out 2).trans rfl; have z3 := (blk_cell R5.out 3).trans rfl; have z4 := (blk_cell R5.out 4).trans rfl; have z5 := (blk_cell R5.out 5).trans rfl; have z6 := (blk_cell R5.out 6).trans rfl; have z7 := (blk_cell R5.out 7).trans rfl; have z8 := (blk_cell R5.out 8).trans rfl; have fz0 := blk_frozen R5.out 0; have fz1 := blk_frozen R5.out 1; have fz2 := blk_frozen R5.out 2; have fz3 := blk_frozen R5.out 3; have fz4 := blk_frozen R5.out 4; have fz5 := blk_frozen R5.out 5; have fz6 := blk_frozen R5.out 6; have fz7 := blk_frozen R5.out 7; have fz8 := blk_frozen R5.out 8; clear hm_ hb_ hg_))
 obtain ⟨wz, hwz⟩ : ∃ wz, wz = ((((((((((w4.setCell ⟨gh, 0, none⟩ (.slice none 0 0)).setCell ⟨gR, 0, none⟩ (.int .i64 0)).setCell ⟨gR, 1, none⟩ (.int .i64 0)).setCell ⟨gR, 2, none⟩ (.int .i64 0)).setCell ⟨gR, 3, none⟩ (.int .i64 0)).setCell ⟨gR, 4, none⟩ (.int .i64 0)).setCell ⟨gR, 5, none⟩ (.pointer none)).setCell ⟨gR, 6, none⟩ (.slice none 0 0)).setCell ⟨gR, 7, none⟩ (.slice none 0 0)).setCell ⟨gR, 8, none⟩ (.int .i64 0)) := ⟨_, rfl⟩
 rw [← hwz]
 obtain ⟨hGz, hstz, hblz⟩ := put9 R5.out hwz
 refine bodyPost_ret (results_ct rfl _ _ gR 121 #[.int .i64 0, .int .i64 0, .int .i64 0, .int .i64 0, .int .i64 0, .pointer none, .slice none 0 0, .slice none 0 0, .int .i64 0] (0, 0) _ rfl hGz Try.underlying121 rfl (by kernel_rfl)) rfl ?_
 exact ⟨B5.out.trans (hblz _ GR.out), .inl ⟨by rw [HEA.out]; decide, by rw [HEA.out]; rfl⟩⟩

set_option maxHeartbeats 8000000 in
set_option maxRecDepth 100000 in
theorem opened_main (ad : Addr) (cap : Nat) (b : List Nat) (w : World) (hC : (nat .u8).C w (some ad) b.length b) (hcap : b.length ≤ cap) (h8 : ∀ i, gt b i < 256) (hl : 12 ≤ b.length) (hl2 : b.length ≤ 4194304) :
    Calls Try.prog 75 #[.slice (some ad) b.length cap] w fun e w1 => OpenPost w b (some ad) cap e w1 := by
 have hu121 := Try.underlying121
 have hu119 := Try.underlying119
 have hu105 := Try.underlying105
 have hu60 := Try.underlying60
 have hu106 := Try.underlying106
 have t1 : decide (4194304 < b.length) = false := decide_eq_false (by omega)
 have t2 : decide (4194304 < (b.length : Int)) = false := decide_eq_false (by omega)
 have hmf : ∀ (fn : Fn) (first cap : Array Value) (w : World), (Instr.makeFunc fn first cap).run Try.prog w = .ok (.func fn first cap) w := fun _ _ _ _ => rfl
 obtain ⟨bh, hhb⟩ : ∃ bh, bh = subN b 0 12 := ⟨_, rfl⟩
 have HHB := Aside0.mk hhb
 have HLB : Aside0 (bh.length = 12) := ⟨by rw [hhb]; exact subN_length (by omega)⟩
 have HB8 : Aside0 (∀ i, gt bh i < 256) := ⟨by rw [hhb]; exact subN_lt h8⟩
 have HC := Aside0.mk hC
 have HCAP := Aside0.mk hcap
 have HL := Aside0.mk hl
 have HL2 : Aside0 (b.length < 4611686018427387904) := ⟨by omega⟩
 have HL3 := Aside0.mk hl2
 have H8 := Aside0.mk h8
 obtain ⟨sp, hsp⟩ : ∃ x, x = hSp b := ⟨_, rfl⟩
 obtain ⟨pl, hpl⟩ : ∃ x, x = hPl b := ⟨_, rfl⟩
 obtain ⟨W, hW'⟩ : ∃ x, x = hW b := ⟨_, rfl⟩
 obtain ⟨H, hH'⟩ : ∃ x, x = hH b := ⟨_, rfl⟩
 obtain ⟨S, hS'⟩ : ∃ x, x = hS b := ⟨_, rfl⟩
 have N0 : Aside0 (numL 0 (subN bh 4 1) = sp) := ⟨by rw [hsp, hhb]; rfl⟩
 have N1 : Aside0 (numL 0 (subN bh 5 1) = pl) := ⟨by rw [hpl, hhb]; rfl⟩
 have N2 : Aside0 (numL 0 (subN bh 6 2) = W) := ⟨by rw [hW', hhb]; rfl⟩
 have N3 : Aside0 (numL 0 (subN bh 8 2) = H) := ⟨by rw [hH', hhb]; rfl⟩
 have N4 : Aside0 (numL 0 (subN bh 10 2) = S) := ⟨by rw [hS', hhb]; rfl⟩
 have E0 := Aside0.mk hsp; have E1 := Aside0.mk hpl; have E2 := Aside0.mk hW'; have E3 := Aside0.mk hH'; have E4 := Aside0.mk hS'
 have HC12 : Aside0 (bh.length ≤ 12) := ⟨by rw [HLB.out]; omega⟩
 unfold OpenPost
 rw [← hsp, ← hpl, ← hW', ← hH', ← hS']
 clear hhb hC hcap h8 hl hl2 hsp hpl hW' hH' hS'
 go_enter Try.func75, Try.ntmps75
 go_wp2_with (first | ((with_reducible refine gate_dst (N := 2) rfl ?_); refine box_event ?hg (N := 2) ?hd (cs := #[.int .i64 0, .int .i64 0, .int .i64 0, .int .i64 0, .int .i64 0, .pointer none, .slice none 0 0, .slice none 0 0, .int .i64 0]) (t := 121) ?hr ?_; (case hd => rfl); (case hg => rfl); (case hr => first | (go_simp; done) | (go_simp; rfl)); intro gR hg_ w1 hm_ hb_; have R1 := Aside0.mk (hm_); have B1 := Aside0.mk (hb_); have GR := Aside0.mk (show w.heap.size ≤ gR by rw [hg_]; exact Nat.le_refl _); clear hm_ hb_ hg_) | ((with_reducible refine gate_dst (N := 4) rfl ?_); refine box_event ?hg (N := 4) ?hd (cs := #[.slice none 0 0, .int .i64 0]) (t := 119) ?hr ?_; (case hd => rfl); (case hg => rfl); (case hr => first | (go_simp; done) | (go_simp; rfl)); intro gr hg_ w2 hm_ hb_; have R2 := Aside0.mk (blk_below R1.out hb_); have G2 := Aside0.mk (hm_); have B2 := Aside0.mk (below_step B1.out hb_); have GR4 := Aside0.mk (show w.heap.size ≤ gr by rw [hg_]; exact below_size B1.out); have NR := Aside0.mk (blk_ne R2.out G2.out (by decide)); have o0 := (blk_cell G2.out 0).trans rfl; have o1 := (blk_cell G2.out 1).trans rfl; have fo0 := blk_frozen G2.out 0; have fo1 := blk_frozen G2.out 1; have X2 := Aside0.mk (put2 (x := .slice (some ad) b.length cap) (y := .int .i64 0) G2.out rfl); have R2b := Aside0.mk ((X2.out.2.1 gR NR.out).trans R2.out); have B2b := Aside0.mk (B2.out.trans (X2.out.2.2 _ GR4.out)); clear hm_ hb_ hg_) | (go_at_call 92; refine (take12 gr cap ad b w _ HC.out ?h1 ?h2 ?h3 HCAP.out HL2.out HL.out).mono ?_; (case h1 => exact (blk_cell X2.out.1 0).trans rfl); (case h2 => exact (blk_cell X2.out.1 1).trans rfl); (case h3 => exact blk_frozen X2.out.1 1); rw [← HHB.out]; rintro e w3 ⟨A1, k3, rfl, hC1, hw3⟩; obtain ⟨ad1, e1, _⟩ := C_nat hC1 0 (by omega); subst e1; have HC1 : Aside0 ((nat .u8).C w (some ad1) bh.length bh) := ⟨by rw [HLB.out]; exact hC1⟩; have X3 := Aside0.mk (takeW X2.out.1 hw3); have R3 := Aside0.mk ((X3.out.2.1 gR NR.out).trans R2b.out); have B3 := Aside0.mk (B2b.out.trans (X3.out.2.2 _ GR4.out)); clear hC1 hw3 o0 o1 fo0 fo1) | ((with_reducible refine gate_dst (N := 5) rfl ?_); refine box_event ?hg (N := 5) ?hd (cs := #[.slice none 0 0]) (t := 23) ?hr ?_; (case hd => rfl); (case hg => rfl); (case hr => first | (go_simp; done) | (go_simp; rfl)); intro gh hg_ w4 hm_ hb_; have R4 := Aside0.mk (blk_below R3.out hb_); have H4 := Aside0.mk (hm_); have B4 := Aside0.mk (below_step B3.out hb_); have GH := Aside0.mk (show w.heap.size ≤ gh by rw [hg_]; exact below_size B3.out); have NRH := Aside0.mk (blk_ne R4.out H4.out (by decide)); have h0 := (blk_cell H4.out 0).trans rfl; have fh0 := blk_frozen H4.out 0; have G4 := Aside0.mk (blk_below X3.out.1 hb_); have NGH := Aside0.mk (blk_ne G4.out H4.out (by decide)); have R5 := Aside0.mk (show (w4.setCell ⟨gh, 0, none⟩ (.slice (some ad1) 12 12)).heap[gR]? = some (.cells #[.int .i64 0, .int .i64 0, .int .i64 0, .int .i64 0, .int .i64 0, .pointer none, .slice none 0 0, .slice none 0 0, .int .i64 0] 121 (0, 0)) from (Below.heap_setCell _ _ _ gR NRH.out).trans R4.out); have G5 := Aside0.mk (show (w4.setCell ⟨gh, 0, none⟩ (.slice (some ad1) 12 12)).heap[gr]? = some (.cells #[.slice (some ad) b.length cap, .int .i64 12] 119 (0, 0)) from (Below.heap_setCell _ _ _ gr NGH.out).trans G4.out); have H5 := Aside0.mk (show (w4.setCell ⟨gh, 0, none⟩ (.slice (some ad1) 12 12)).heap[gh]? = some (.cells #[.slice (some ad1) 12 12] 23 (0, 0)) from (blk_set H4.out 0 _).trans rfl); have B5 := Aside0.mk (show Below w.heap.size w (w4.setCell ⟨gh, 0, none⟩ (.slice (some ad1) 12 12)) from B4.out.setCell (p := ⟨gh, 0, none⟩) GH.out _); clear hm_ hb_ hg_) |
  (go_at_call 45; refine (newTable_calls _).mono ?_; rintro e w6 ⟨gT, rfl, hg, hT, hb6⟩; have R6 := Aside0.mk (blk_below R5.out hb6); have G6 := Aside0.mk (blk_below G5.out hb6); have H6 := Aside0.mk (blk_below H5.out hb6); have T6 := Aside0.mk hT; have GT := Aside0.mk (show w.heap.size ≤ gT from Nat.le_trans (below_size B5.out) hg); have B6 := Aside0.mk (below_step B5.out hb6); clear hg hT hb6 h0 fh0) |
  (go_at_call 93; with_reducible refine (num45 (g := gh) (ad := ad1) (b := bh) ?h1 ?h2 ?h4 ?h5).mono ?_; (case h1 => exact cell_new1 H6.out); (case h2 => exact Kd.C_below HC1.out B6.out); (case h4 => exact HB8.out); (case h5 => exact HLB.out); rw [N0.out]; rintro e w7 ⟨rfl, hb⟩; have R7 := Aside0.mk (blk_below R6.out hb); have G7 := Aside0.mk (blk_below G6.out hb); have H7 := Aside0.mk (blk_below H6.out hb); have T7 := Aside0.mk (T6.out.below hb); have B7 := Aside0.mk (below_step B6.out hb); clear hb) | (go_at_call 93; with_reducible refine (num56 (g := gh) (ad := ad1) (b := bh) ?h1 ?h2 ?h4 ?h5).mono ?_; (case h1 => exact cell_new1 H7.out); (case h2 => exact Kd.C_below HC1.out B7.out); (case h4 => exact HB8.out); (case h5 => exact HLB.out); rw [N1.out]; rintro e w8 ⟨rfl, hb⟩; have R8 := Aside0.mk (blk_below R7.out hb); have G8 := Aside0.mk (blk_below G7.out hb); have H8 := Aside0.mk (blk_below H7.out hb); have T8 := Aside0.mk (T7.out.below hb); have B8 := Aside0.mk (below_step B7.out hb); clear hb) | (go_at_call 93; with_reducible refine (num68 (g := gh) (ad := ad1) (b := bh) ?h1 ?h2 ?h4 ?h5).mono ?_; (case h1 => exact cell_new1 H8.out); (case h2 => exact Kd.C_below HC1.out B8.out); (case h4 => exact HB8.out); (case h5 => exact HLB.out); rw [N2.out]; rintro e w9 ⟨rfl, hb⟩; have R9 := Aside0.mk (blk_below R8.out hb); have G9 := Aside0.mk (blk_below G8.out hb); have H9 := Aside0.mk (blk_below H8.out hb); have T9 := Aside0.mk (T8.out.below hb); have B9 := Aside0.mk (below_step B8.out hb); clear hb) | (go_at_call 93; with_reducible refine (num810 (g := gh) (ad := ad1) (b := bh) ?h1 ?h2 ?h4 ?h5).mono ?_; (case h1 => exact cell_new1 H9.out); (case h2 => exact Kd.C_below HC1.out B9.out); (case h4 => exact HB8.out); (case h5 => exact HLB.out); rw [N3.out]; rintro e w10 ⟨rfl, hb⟩; have R10 := Aside0.mk (blk_below R9.out hb); have G10 := Aside0.mk (blk_below G9.out hb); have H10 := Aside0.mk (blk_below H9.out hb); have T10 := Aside0.mk (T9.out.below hb); have B10 := Aside0.mk (below_step B9.out hb); clear hb) | (go_at_call 93; with_reducible refine (num1012 (g := gh) (ad := ad1) (b := bh) ?h1 ?h2 ?h4 ?h5).mono ?_; (case h1 => exact cell_new1 H10.out); (case h2 => exact Kd.C_below HC1.out B10.out); (case h4 => exact HB8.out); (case h5 => exact HLB.out); rw [N4.out]; rintro e w11 ⟨rfl, hb⟩; have R11 := Aside0.mk (blk_below R10.out hb); have G11 := Aside0.mk (blk_below G10.out hb); have H11 := Aside0.mk (blk_below H10.out hb); have T11 := Aside0.mk (T10.out.below hb); have B11 := Aside0.mk (below_step B10.out hb); clear hb) | ((with_reducible refine gate_dst (N := 8) rfl ?_); refine box_event ?hg (N := 8) ?hd (cs := #[.int .i64 0, .int .i64 0, .int .i64 0, .int .i64 0, .int .i64 0, .pointer none, .slice none 0 0, .slice none 0 0, .int .i64 0]) (t := 121) ?hr ?_; (case hd => rfl); (case hg => rfl); (case hr => first | (go_simp; done) | (go_simp; rfl)); intro gf hg_ w12 hm_ hb_; have R12 := Aside0.mk (blk_below R11.out hb_); have G12 := Aside0.mk (blk_below G11.out hb_); have H12 := Aside0.mk (blk_below H11.out hb_); have T12 := Aside0.mk (T11.out.below hb_); have F12 := Aside0.mk (hm_); have B12 := Aside0.mk (below_step B11.out hb_); have GF := Aside0.mk (show w.heap.size ≤ gf by rw [hg_]; exact below_size B11.out); have NRF := Aside0.mk (show gR ≠ gf by rw [hg_]; have := blk_lt R11.out; omega); have o0 := (blk_cell F12.out 0).trans rfl; have o1 := (blk_cell F12.out 1).trans rfl; have o2 := (blk_cell F12.out 2).trans rfl; have o3 := (blk_cell F12.out 3).trans rfl; have o4 := (blk_cell F12.out 4).trans rfl; have o5 := (blk_cell F12.out 5).trans rfl; have o6 := (blk_cell F12.out 6).trans rfl; have o7 := (blk_cell F12.out 7).trans rfl; have o8 := (blk_cell F12.out 8).trans rfl; have fo0 := blk_frozen F12.out 0; have fo1 := blk_frozen F12.out 1; have fo2 := blk_frozen F12.out 2; have fo3 := blk_frozen F12.out 3; have fo4 := blk_frozen F12.out 4; have fo5 := blk_frozen F12.out 5; have fo6 := blk_frozen F12.out 6; have fo7 := blk_frozen F12.out 7; have fo8 := blk_frozen F12.out 8; clear hm_ hb_ hg_))
 obtain ⟨w13, hw13⟩ : ∃ w13, w13 = (((((((((w12.setCell ⟨gf, 0, none⟩ (.int .i64 (sp : Int))).setCell ⟨gf, 1, none⟩ (.int .i64 (pl : Int))).setCell ⟨gf, 2, none⟩ (.int .i64 (W : Int))).setCell ⟨gf, 3, none⟩ (.int .i64 (H : Int))).setCell ⟨gf, 4, none⟩ (.int .i64 (S : Int))).setCell ⟨gf, 5, none⟩ (.pointer (some ⟨gT, 0, none⟩))).setCell ⟨gf, 6, none⟩ (.slice none 0 0)).setCell ⟨gf, 7, none⟩ (.slice none 0 0)).setCell ⟨gf, 8, none⟩ (.int .i64 0)) := ⟨_, rfl⟩
 rw [← hw13]
 obtain ⟨hF13, hst13, hbl13⟩ := put9 F12.out hw13
 have R14 := Aside0.mk (blk_drew ((hst13 gR NRF.out).trans R12.out))
 have G14 := Aside0.mk (blk_drew ((hst13 gr (blk_ne G12.out F12.out (by decide))).trans G12.out))
 have H14 := Aside0.mk (blk_drew ((hst13 gh (blk_ne H12.out F12.out (by decide))).trans H12.out))
 have T14 : Aside0 (TB w13.drew gT) := ⟨by
  obtain ⟨ct, hct⟩ := T12.out.block
  exact (T12.out.move (hst13 gT (blk_ne hct F12.out (by decide)))).below (below_drew1 (Below.refl _ _))⟩
 have F14 := Aside0.mk (blk_drew hF13)
 have B14 := Aside0.mk (below_drew1 (B12.out.trans (hbl13 _ GF.out)))
 clear hw13 hF13 hst13 hbl13 R12 G12 H12 T12 F12 B12 o0 fo0 o1 fo1 o2 fo2 o3 fo3 o4 fo4 o5 fo5 o6 fo6 o7 fo7 o8 fo8
 clear R11 G11 H11 T11 B11 R10 G10 H10 T10 B10 R9 G9 H9 T9 B9 R8 G8 H8 T8 B8 R7 G7 H7 T7 B7 R6 G6 H6 T6 B6 R5 G5 H5 B5
 have YC : ∀ j, j < 12 → w.cell? (ad1.add j) = some (.int .u8 ((gt bh j : Nat) : Int)) := fun j hj => by
  obtain ⟨ad', e', hc⟩ := C_nat HC1.out j (by rw [HLB.out]; exact hj)
  injection e' with e'
  subst e'
  exact hc
 obtain ⟨m0, hm0⟩ : ∃ m, m = gt bh 0 := ⟨_, rfl⟩
 obtain ⟨m1, hm1⟩ : ∃ m, m = gt bh 1 := ⟨_, rfl⟩
 obtain ⟨m2, hm2⟩ : ∃ m, m = gt bh 2 := ⟨_, rfl⟩
 obtain ⟨m3, hm3⟩ : ∃ m, m = gt bh 3 := ⟨_, rfl⟩
 have Y0 : Aside0 (w.cell? ad1 = some (.int .u8 (m0 : Int))) := ⟨by rw [hm0]; exact YC 0 (by omega)⟩
 have Y1 : Aside0 (w.cell? ⟨ad1.block, ad1.off + 1, none⟩ = some (.int .u8 (m1 : Int))) := ⟨by rw [hm1]; exact YC 1 (by omega)⟩
 have Y2 : Aside0 (w.cell? ⟨ad1.block, ad1.off + 2, none⟩ = some (.int .u8 (m2 : Int))) := ⟨by rw [hm2]; exact YC 2 (by omega)⟩
 have Y3 : Aside0 (w.cell? ⟨ad1.block, ad1.off + 3, none⟩ = some (.int .u8 (m3 : Int))) := ⟨by rw [hm3]; exact YC 3 (by omega)⟩
 have gb : ∀ j, j < 12 → gt bh j = gt b j := fun j hj => by
  rw [HHB.out]
  unfold gt subN
  rw [List.getD_eq_getElem?_getD, List.getD_eq_getElem?_getD, List.getElem?_take, if_pos hj, List.drop_zero]
 have HM : Aside0 (hMagic b = (decide (m0 = 72) && decide (m1 = 76) && decide (m2 = 68) && decide (m3 = 49))) := ⟨by unfold hMagic; rw [hm0, hm1, hm2, hm3, gb 0 (by omega), gb 1 (by omega), gb 2 (by omega), gb 3 (by omega)]⟩
 have harr : ∀ w', (Instr.arrayAt 106 (.slice (some ad1) 4 12)).run Try.prog w' = .ok (.pointer (some ad1)) w' := fun w' => arrayAt4 ad1 12 w'
 have heq := eq106
 clear YC hm0 hm1 hm2 hm3 gb
 by_cases hmg : m0 = 72 ∧ m1 = 76 ∧ m2 = 68 ∧ m3 = 49
 ·obtain ⟨rfl, rfl, rfl, rfl⟩ := hmg
  refine start_ (n := 13) (S := fun w' => w'.cell? ⟨gh, 0, none⟩ = some (.slice (some ad1) 12 12) ∧ w'.cell? ad1 = some (.int .u8 72) ∧ w'.cell? ⟨ad1.block, ad1.off + 1, none⟩ = some (.int .u8 76) ∧ w'.cell? ⟨ad1.block, ad1.off + 2, none⟩ = some (.int .u8 68) ∧ w'.cell? ⟨ad1.block, ad1.off + 3, none⟩ = some (.int .u8 49) ∧ w'.cell? ⟨gf, 0, none⟩ = some (.int .i64 (sp : Int)) ∧ w'.cell? ⟨gf, 1, none⟩ = some (.int .i64 (pl : Int)) ∧ w'.cell? ⟨gf, 2, none⟩ = some (.int .i64 (W : Int)) ∧ w'.cell? ⟨gf, 3, none⟩ = some (.int .i64 (H : Int)) ∧ w'.cell? ⟨gf, 4, none⟩ = some (.int .i64 (S : Int))) (ds := []) #[ff_,ff_,ff_,ff_,ff_,ff_,ff_,ff_,ff_,ff_,ff_,ff_,ff_] (by kernel_rfl) rfl rfl ⟨(cell_new1 H14.out), ((B14.out.cell (World.block_lt_of_cell? w _ Y0.out)).trans Y0.out), ((B14.out.cell (World.block_lt_of_cell? w _ Y1.out)).trans Y1.out), ((B14.out.cell (World.block_lt_of_cell? w _ Y2.out)).trans Y2.out), ((B14.out.cell (World.block_lt_of_cell? w _ Y3.out)).trans Y3.out), (blk_cell F14.out 0).trans rfl, (blk_cell F14.out 1).trans rfl, (blk_cell F14.out 2).trans rfl, (blk_cell F14.out 3).trans rfl, (blk_cell F14.out 4).trans rfl⟩ (fun hHeld => ?_)
  generalize w13.drew = wd at *
  refine take_ (i := 0) (N := some 41) (v := ?_) (a' := ?_) #[tt_,ff_,ff_,ff_,ff_,ff_,ff_,ff_,ff_,ff_,ff_,ff_,ff_] rfl rfl (by kernel_rfl) (fun _ _ _ h => h) (Or.inl ⟨by rfl, ?_⟩) hHeld ?_ ?_
  rotate_left
  ·rintro w' ⟨s0, s1, s2, s3, s4, s5, s6, s7, s8, s9⟩
   go_simp
   with_reducible rfl
  rotate_left
  ·simp only [Act.put, List.setIfInBounds_toArray, List.set_cons_zero, List.set_cons_succ, i64_w, i32_w]
   rfl
  refine pure_ (i := 1) (N := some 42) (v := ?_) (a' := ?_) #[tt_,tt_,ff_,ff_,ff_,ff_,ff_,ff_,ff_,ff_,ff_,ff_,ff_] rfl rfl (by kernel_rfl) (fun _ _ _ h => h) (Or.inl ⟨by rfl, ?_⟩) ?_ ?_
  rotate_left
  ·intro w'
   go_simp
   with_reducible rfl
  rotate_left
  ·simp only [Act.put, List.setIfInBounds_toArray, List.set_cons_zero, List.set_cons_succ, i64_w, i32_w]
   rfl
  refine pure_ (i := 2) (N := some 43) (v := ?_) (a' := ?_) #[tt_,tt_,tt_,ff_,ff_,ff_,ff_,ff_,ff_,ff_,ff_,ff_,ff_] rfl rfl (by kernel_rfl) (fun _ _ _ h => h) (Or.inl ⟨by rfl, ?_⟩) ?_ ?_
  rotate_left
  ·intro w'
   go_simp
   with_reducible rfl
  rotate_left
  ·simp only [Act.put, List.setIfInBounds_toArray, List.set_cons_zero, List.set_cons_succ, i64_w, i32_w]
   rfl
  refine take_ (i := 3) (N := some 44) (v := ?_) (a' := ?_) #[tt_,tt_,tt_,tt_,ff_,ff_,ff_,ff_,ff_,ff_,ff_,ff_,ff_] rfl rfl (by kernel_rfl) (fun _ _ _ h => h) (Or.inl ⟨by rfl, ?_⟩) hHeld ?_ ?_
  rotate_left
  ·rintro w' ⟨s0, s1, s2, s3, s4, s5, s6, s7, s8, s9⟩
   go_simp
   with_reducible rfl
  rotate_left
  ·simp only [Act.put, List.setIfInBounds_toArray, List.set_cons_zero, List.set_cons_succ, i64_w, i32_w]
   rfl
  refine one_ (i := 4) (N := some 45) #[tt_,tt_,tt_,tt_,tt_,ff_,ff_,ff_,ff_,ff_,ff_,ff_,ff_] rfl rfl (by kernel_rfl) (by decide) (fun K hK => ?_)
  refine goes_ Try.func64 (by kernel_rfl) rfl #[] (by rfl) rfl rfl (by first | rfl | (simp only [List.map_toArray, List.map_cons, List.map_nil]; done) | (simp only [List.map_toArray, List.map_cons, List.map_nil]; rfl)) ?_
  with_reducible refine (magic_calls _).mono ?_
  rintro e w15 ⟨rfl, hb⟩
  refine ⟨_, rfl, ?_⟩
  have R15 := Aside0.mk (blk_below R14.out hb)
  have G15 := Aside0.mk (blk_below G14.out hb)
  have H15 := Aside0.mk (blk_below H14.out hb)
  have T15 := Aside0.mk (T14.out.below hb)
  have F15 := Aside0.mk (blk_below F14.out hb)
  have B15 := Aside0.mk (below_step B14.out hb)
  clear hb
  refine hK.out _ _ ⟨(cell_new1 H15.out), ((B15.out.cell (World.block_lt_of_cell? w _ Y0.out)).trans Y0.out), ((B15.out.cell (World.block_lt_of_cell? w _ Y1.out)).trans Y1.out), ((B15.out.cell (World.block_lt_of_cell? w _ Y2.out)).trans Y2.out), ((B15.out.cell (World.block_lt_of_cell? w _ Y3.out)).trans Y3.out), (blk_cell F15.out 0).trans rfl, (blk_cell F15.out 1).trans rfl, (blk_cell F15.out 2).trans rfl, (blk_cell F15.out 3).trans rfl, (blk_cell F15.out 4).trans rfl⟩ (fun hHeld => ?_)
  clear hK K
  refine norm_ (a' := ?_) ?_ ?_
  rotate_left
  ·show Act.put _ (some 45) _ = _
   simp only [Act.put, List.setIfInBounds_toArray, List.set_cons_zero, List.set_cons_succ, i64_w, i32_w]
   rfl
  refine pure_ (i := 5) (N := some 46) (v := ?_) (a' := ?_) #[tt_,tt_,tt_,tt_,tt_,tt_,ff_,ff_,ff_,ff_,ff_,ff_,ff_] rfl rfl (by kernel_rfl) (fun _ _ _ h => h) (Or.inl ⟨by rfl, ?_⟩) ?_ ?_
  rotate_left
  ·intro w'
   go_simp
   with_reducible rfl
  rotate_left
  ·simp only [Act.put, List.setIfInBounds_toArray, List.set_cons_zero, List.set_cons_succ, i64_w, i32_w]
   rfl
  refine pure_ (i := 6) (N := some 47) (v := ?_) (a' := ?_) #[tt_,tt_,tt_,tt_,tt_,tt_,tt_,ff_,ff_,ff_,ff_,ff_,ff_] rfl rfl (by kernel_rfl) (fun _ _ _ h => h) (Or.inl ⟨by rfl, ?_⟩) ?_ ?_
  rotate_left
  ·intro w'
   go_simp
   with_reducible rfl
  rotate_left
  ·simp only [Act.put, List.setIfInBounds_toArray, List.set_cons_zero, List.set_cons_succ, i64_w, i32_w]
   rfl
  refine pure_ (i := 7) (N := some 48) (v := ?_) (a' := ?_) #[tt_,tt_,tt_,tt_,tt_,tt_,tt_,tt_,ff_,ff_,ff_,ff_,ff_] rfl rfl (by kernel_rfl) (fun _ _ _ h => h) (Or.inl ⟨by rfl, ?_⟩) ?_ ?_
  rotate_left
  ·intro w'
   go_simp
   with_reducible rfl
  rotate_left
  ·simp only [Act.put, List.setIfInBounds_toArray, List.set_cons_zero, List.set_cons_succ, i64_w, i32_w]
   rfl
  refine pure_ (i := 8) (N := some 49) (v := ?_) (a' := ?_) #[tt_,tt_,tt_,tt_,tt_,tt_,tt_,tt_,tt_,ff_,ff_,ff_,ff_] rfl rfl (by kernel_rfl) (fun _ _ _ h => h) (Or.inl ⟨by rfl, ?_⟩) ?_ ?_
  rotate_left
  ·intro w'
   go_simp
   with_reducible rfl
  rotate_left
  ·simp only [Act.put, List.setIfInBounds_toArray, List.set_cons_zero, List.set_cons_succ, i64_w, i32_w]
   rfl
  refine take_ (i := 9) (N := some 50) (v := ?_) (a' := ?_) #[tt_,tt_,tt_,tt_,tt_,tt_,tt_,tt_,tt_,tt_,ff_,ff_,ff_] rfl rfl (by kernel_rfl) (fun _ _ _ h => h) (Or.inl ⟨by rfl, ?_⟩) hHeld ?_ ?_
  rotate_left
  ·rintro w' ⟨s0, s1, s2, s3, s4, s5, s6, s7, s8, s9⟩
   go_simp
   with_reducible rfl
  rotate_left
  ·simp only [Act.put, List.setIfInBounds_toArray, List.set_cons_zero, List.set_cons_succ, i64_w, i32_w]
   rfl
  refine one_ (i := 10) (N := some 51) #[tt_,tt_,tt_,tt_,tt_,tt_,tt_,tt_,tt_,tt_,tt_,ff_,ff_] rfl rfl (by kernel_rfl) (by decide) (fun K hK => ?_)
  refine goes_ Try.func95 (by kernel_rfl) rfl #[.agg #[.int .i64 (sp : Int), .int .i64 (pl : Int), .int .i64 (W : Int), .int .i64 (H : Int), .int .i64 (S : Int)]] (by rfl) rfl rfl (by (try simp only [List.map_toArray, List.map_cons, List.map_nil]); rfl) ?_
  with_reducible refine (may_calls sp pl W H S _).mono ?_
  rintro e w16 ⟨rfl, hb⟩
  refine ⟨_, rfl, ?_⟩
  have R16 := Aside0.mk (blk_below R15.out hb)
  have G16 := Aside0.mk (blk_below G15.out hb)
  have H16 := Aside0.mk (blk_below H15.out hb)
  have T16 := Aside0.mk (T15.out.below hb)
  have F16 := Aside0.mk (blk_below F15.out hb)
  have B16 := Aside0.mk (below_step B15.out hb)
  clear hb
  refine hK.out _ _ ⟨(cell_new1 H16.out), ((B16.out.cell (World.block_lt_of_cell? w _ Y0.out)).trans Y0.out), ((B16.out.cell (World.block_lt_of_cell? w _ Y1.out)).trans Y1.out), ((B16.out.cell (World.block_lt_of_cell? w _ Y2.out)).trans Y2.out), ((B16.out.cell (World.block_lt_of_cell? w _ Y3.out)).trans Y3.out), (blk_cell F16.out 0).trans rfl, (blk_cell F16.out 1).trans rfl, (blk_cell F16.out 2).trans rfl, (blk_cell F16.out 3).trans rfl, (blk_cell F16.out 4).trans rfl⟩ (fun hHeld => ?_)
  clear hK K
  refine norm_ (a' := ?_) ?_ ?_
  rotate_left
  ·show Act.put _ (some 51) _ = _
   simp only [Act.put, List.setIfInBounds_toArray, List.set_cons_zero, List.set_cons_succ, i64_w, i32_w]
   rfl
  refine pure_ (i := 11) (N := some 52) (v := ?_) (a' := ?_) #[tt_,tt_,tt_,tt_,tt_,tt_,tt_,tt_,tt_,tt_,tt_,tt_,ff_] rfl rfl (by kernel_rfl) (fun _ _ _ h => h) (Or.inl ⟨by rfl, ?_⟩) ?_ ?_
  rotate_left
  ·intro w'
   go_simp
   with_reducible rfl
  rotate_left
  ·simp only [Act.put, List.setIfInBounds_toArray, List.set_cons_zero, List.set_cons_succ, i64_w, i32_w]
   rfl
  refine pure_ (i := 12) (N := some 53) (v := ?_) (a' := ?_) #[tt_,tt_,tt_,tt_,tt_,tt_,tt_,tt_,tt_,tt_,tt_,tt_,tt_] rfl rfl (by kernel_rfl) (fun _ _ _ h => h) (Or.inl ⟨by rfl, ?_⟩) ?_ ?_
  rotate_left
  ·intro w'
   go_simp
   with_reducible rfl
  rotate_left
  ·simp only [Act.put, List.setIfInBounds_toArray, List.set_cons_zero, List.set_cons_succ, i64_w, i32_w]
   rfl
  refine done_ (by kernel_rfl) ?_
  obtain ⟨mv, hmv⟩ : ∃ mv, mv = mayB sp pl W H S := ⟨_, rfl⟩
  rw [← hmv]
  have HMV : Aside0 (hMay b = mv) := ⟨by rw [hmv, E0.out, E1.out, E2.out, E3.out, E4.out]; rfl⟩
  have HMG : Aside0 (hMagic b = true) := ⟨by rw [HM.out]; rfl⟩
  cases mv with
  | false =>
   clear hmv
   have HE : Aside0 (openE b = 181) := ⟨by unfold openE; rw [if_neg (by have := HL3.out; omega), if_neg (by have := HL.out; omega), if_pos (by rw [HMV.out]; simp)]⟩
   have o0 := (blk_cell R16.out 0).trans rfl
   have o1 := (blk_cell R16.out 1).trans rfl
   have o2 := (blk_cell R16.out 2).trans rfl
   have o3 := (blk_cell R16.out 3).trans rfl
   have o4 := (blk_cell R16.out 4).trans rfl
   have o5 := (blk_cell R16.out 5).trans rfl
   have o6 := (blk_cell R16.out 6).trans rfl
   have o7 := (blk_cell R16.out 7).trans rfl
   have o8 := (blk_cell R16.out 8).trans rfl
   have fo0 := blk_frozen R16.out 0
   have fo1 := blk_frozen R16.out 1
   have fo2 := blk_frozen R16.out 2
   have fo3 := blk_frozen R16.out 3
   have fo4 := blk_frozen R16.out 4
   have fo5 := blk_frozen R16.out 5
   have fo6 := blk_frozen R16.out 6
   have fo7 := blk_frozen R16.out 7
   have fo8 := blk_frozen R16.out 8
   go_wp2
   obtain ⟨wz, hwz⟩ : ∃ wz, wz = (((((((((w16.setCell ⟨gR, 0, none⟩ (.int .i64 0)).setCell ⟨gR, 1, none⟩ (.int .i64 0)).setCell ⟨gR, 2, none⟩ (.int .i64 0)).setCell ⟨gR, 3, none⟩ (.int .i64 0)).setCell ⟨gR, 4, none⟩ (.int .i64 0)).setCell ⟨gR, 5, none⟩ (.pointer none)).setCell ⟨gR, 6, none⟩ (.slice none 0 0)).setCell ⟨gR, 7, none⟩ (.slice none 0 0)).setCell ⟨gR, 8, none⟩ (.int .i64 0)) := ⟨_, rfl⟩
   rw [← hwz]
   obtain ⟨hGz, hstz, hblz⟩ := put9 R16.out hwz
   refine bodyPost_ret (results_ct rfl _ _ gR 121 #[.int .i64 0, .int .i64 0, .int .i64 0, .int .i64 0, .int .i64 0, .pointer none, .slice none 0 0, .slice none 0 0, .int .i64 0] (0, 0) _ rfl hGz Try.underlying121 rfl (by kernel_rfl)) rfl ?_
   exact ⟨B16.out.trans (hblz _ GR.out), .inl ⟨by rw [HE.out]; decide, by rw [HE.out]; rfl⟩⟩
  | true =>
   have HMB := Aside0.mk hmv
   have hq := mayB_true hmv.symm
   clear hmv
   obtain ⟨T, hT⟩ : ∃ T, T = tilesN W H S := ⟨_, rfl⟩
   have hT2 : T ≤ 65536 := by rw [hT]; exact tilesN_le hq.2.2.2.2.2.2.2.2.1
   have HTF := Aside0.mk (tiles_f (sp : Int) (pl : Int) W H S (by omega) (by omega) (by omega) (by omega))
   rw [← hT] at HTF
   obtain ⟨N, hN'⟩ : ∃ N, N = 4 * T * pl := ⟨_, rfl⟩
   have hN2 : N ≤ 1048576 := by rw [hN']; exact Nat.le_trans (Nat.mul_le_mul (Nat.mul_le_mul (Nat.le_refl 4) hT2) hq.2.2.2.1) (by decide)
   have HNB : Aside0 (hN b = N) := ⟨by unfold hN; rw [← E1.out, ← E2.out, ← E3.out, ← E4.out, ← hT, ← hN']⟩
   have HKB : Aside0 (hK b = T * pl) := ⟨by unfold hK; rw [← E1.out, ← E2.out, ← E3.out, ← E4.out, ← hT]⟩
   have HN2 : Aside0 (N < 4611686018427387904) := ⟨by omega⟩
   have HNN := Aside0.mk hN'
   have HQ := Aside0.mk hq
   have ht2 : (4 : Int) * (T : Int) = ((4 * T : Nat) : Int) := by omega
   have ht3 : ((4 * T : Nat) : Int) * (pl : Int) = (N : Int) := by rw [hN']; exact (Int.natCast_mul _ _).symm
   have ht4 : 4 * T < 4611686018427387904 := by omega
   have ht5 : (4 : Int) * (T : Int) * (pl : Int) = (N : Int) := by rw [ht2]; exact ht3
   have r17 := blk_drew R16.out
   have g17 := blk_drew G16.out
   have f17 := blk_drew F16.out
   have t17 := T16.out.below (below_drew1 (Below.refl _ w16))
   have b17 := below_drew1 B16.out
   have R17 := Aside0.mk r17; have G17 := Aside0.mk g17; have F17 := Aside0.mk f17; have T17 := Aside0.mk t17; have B17 := Aside0.mk b17
   have HTT := Aside0.mk hT
   clear r17 g17 f17 t17 b17 R16 G16 F16 T16 B16 H16 hq hT hT2 hN'
   have hNb := hN2
   by_cases hsh : b.length < 12 + N
   ·have HNS := Aside0.mk hsh
    have HE : Aside0 (openE b = 182) := ⟨by unfold openE; rw [if_neg (by have := HL3.out; omega), if_neg (by have := HL.out; omega), if_neg (by rw [HMV.out, HMG.out]; simp), HNB.out, if_pos hsh]⟩
    clear hsh hNb hN2
    have w1' := wrapI ht2 ht4
    have w2' := wrapI ht3 HN2.out
    have w3' := wrapI ht5 HN2.out
    clear ht2 ht3 ht4 ht5
    go_wp2
    refine start_ (n := 15) (S := fun w' => w'.cell? ⟨gf, 0, none⟩ = some (.int .i64 (sp : Int)) ∧ w'.cell? ⟨gf, 1, none⟩ = some (.int .i64 (pl : Int)) ∧ w'.cell? ⟨gf, 2, none⟩ = some (.int .i64 (W : Int)) ∧ w'.cell? ⟨gf, 3, none⟩ = some (.int .i64 (H : Int)) ∧ w'.cell? ⟨gf, 4, none⟩ = some (.int .i64 (S : Int))) (ds := []) #[ff_,ff_,ff_,ff_,ff_,ff_,ff_,ff_,ff_,ff_,ff_,ff_,ff_,ff_,ff_] (by kernel_rfl) rfl rfl ⟨(blk_cell F17.out 0).trans rfl, (blk_cell F17.out 1).trans rfl, (blk_cell F17.out 2).trans rfl, (blk_cell F17.out 3).trans rfl, (blk_cell F17.out 4).trans rfl⟩ (fun hHeld => ?_)
    generalize w16.drew = wd2 at *
    refine pure_ (i := 0) (N := some 56) (v := ?_) (a' := ?_) #[tt_,ff_,ff_,ff_,ff_,ff_,ff_,ff_,ff_,ff_,ff_,ff_,ff_,ff_,ff_] rfl rfl (by kernel_rfl) (fun _ _ _ h => h) (Or.inl ⟨by rfl, ?_⟩) ?_ ?_
    rotate_left
    ·intro w'
     go_simp
     with_reducible rfl
    rotate_left
    ·simp only [Act.put, List.setIfInBounds_toArray, List.set_cons_zero, List.set_cons_succ, i64_w, i32_w]
     rfl
    refine pure_ (i := 4) (N := some 60) (v := ?_) (a' := ?_) #[tt_,ff_,ff_,ff_,tt_,ff_,ff_,ff_,ff_,ff_,ff_,ff_,ff_,ff_,ff_] rfl rfl (by kernel_rfl) (fun _ _ _ h => h) (Or.inl ⟨by rfl, ?_⟩) ?_ ?_
    rotate_left
    ·intro w'
     go_simp
     with_reducible rfl
    rotate_left
    ·simp only [Act.put, List.setIfInBounds_toArray, List.set_cons_zero, List.set_cons_succ, i64_w, i32_w]
     rfl
    refine pure_ (i := 5) (N := some 61) (v := ?_) (a' := ?_) #[tt_,ff_,ff_,ff_,tt_,tt_,ff_,ff_,ff_,ff_,ff_,ff_,ff_,ff_,ff_] rfl rfl (by kernel_rfl) (fun _ _ _ h => h) (Or.inl ⟨by rfl, ?_⟩) ?_ ?_
    rotate_left
    ·intro w'
     go_simp
     with_reducible rfl
    rotate_left
    ·simp only [Act.put, List.setIfInBounds_toArray, List.set_cons_zero, List.set_cons_succ, i64_w, i32_w]
     rfl
    refine pure_ (i := 6) (N := some 62) (v := ?_) (a' := ?_) #[tt_,ff_,ff_,ff_,tt_,tt_,tt_,ff_,ff_,ff_,ff_,ff_,ff_,ff_,ff_] rfl rfl (by kernel_rfl) (fun _ _ _ h => h) (Or.inl ⟨by rfl, ?_⟩) ?_ ?_
    rotate_left
    ·intro w'
     go_simp
     with_reducible rfl
    rotate_left
    ·simp only [Act.put, List.setIfInBounds_toArray, List.set_cons_zero, List.set_cons_succ, i64_w, i32_w]
     rfl
    refine take_ (i := 1) (N := some 57) (v := ?_) (a' := ?_) #[tt_,tt_,ff_,ff_,tt_,tt_,tt_,ff_,ff_,ff_,ff_,ff_,ff_,ff_,ff_] rfl rfl (by kernel_rfl) (fun _ _ _ h => h) (Or.inl ⟨by rfl, ?_⟩) hHeld ?_ ?_
    rotate_left
    ·rintro w' ⟨s0, s1, s2, s3, s4⟩
     go_simp
     with_reducible rfl
    rotate_left
    ·simp only [Act.put, List.setIfInBounds_toArray, List.set_cons_zero, List.set_cons_succ, i64_w, i32_w]
     rfl
    refine take_ (i := 7) (N := some 63) (v := ?_) (a' := ?_) #[tt_,tt_,ff_,ff_,tt_,tt_,tt_,tt_,ff_,ff_,ff_,ff_,ff_,ff_,ff_] rfl rfl (by kernel_rfl) (fun _ _ _ h => h) (Or.inl ⟨by rfl, ?_⟩) hHeld ?_ ?_
    rotate_left
    ·rintro w' ⟨s0, s1, s2, s3, s4⟩
     go_simp
     with_reducible rfl
    rotate_left
    ·simp only [Act.put, List.setIfInBounds_toArray, List.set_cons_zero, List.set_cons_succ, i64_w, i32_w]
     rfl
    refine one_ (i := 2) (N := some 58) #[tt_,tt_,tt_,ff_,tt_,tt_,tt_,tt_,ff_,ff_,ff_,ff_,ff_,ff_,ff_] rfl rfl (by kernel_rfl) (by decide) (fun K hK => ?_)
    refine goes_ Try.func66 (by kernel_rfl) rfl #[.agg #[.int .i64 (sp : Int), .int .i64 (pl : Int), .int .i64 (W : Int), .int .i64 (H : Int), .int .i64 (S : Int)]] (by rfl) rfl rfl (by (try simp only [List.map_toArray, List.map_cons, List.map_nil]); rfl) ?_
    with_reducible refine (codec_grid_tiles.calls (sp : Int) (pl : Int) (W : Int) (H : Int) (S : Int) (T : Int) _ HTF.out).mono ?_
    rintro e w18 ⟨rfl, hb⟩
    refine ⟨_, rfl, ?_⟩
    have R18 := Aside0.mk (blk_below R17.out hb)
    have G18 := Aside0.mk (blk_below G17.out hb)
    have T18 := Aside0.mk (T17.out.below hb)
    have F18 := Aside0.mk (blk_below F17.out hb)
    have B18 := Aside0.mk (below_step B17.out hb)
    clear hb
    refine hK.out _ _ ⟨(blk_cell F18.out 0).trans rfl, (blk_cell F18.out 1).trans rfl, (blk_cell F18.out 2).trans rfl, (blk_cell F18.out 3).trans rfl, (blk_cell F18.out 4).trans rfl⟩ (fun hHeld => ?_)
    clear hK K
    refine norm_ (a' := ?_) ?_ ?_
    rotate_left
    ·show Act.put _ (some 58) _ = _
     simp only [Act.put, List.setIfInBounds_toArray, List.set_cons_zero, List.set_cons_succ, i64_w, i32_w]
     rfl
    refine pure_ (i := 3) (N := some 59) (v := ?_) (a' := ?_) #[tt_,tt_,tt_,tt_,tt_,tt_,tt_,tt_,ff_,ff_,ff_,ff_,ff_,ff_,ff_] rfl rfl (by kernel_rfl) (fun _ _ _ h => h) (Or.inl ⟨by rfl, ?_⟩) ?_ ?_
    rotate_left
    ·intro w'
     go_simp
     with_reducible rfl
    rotate_left
    ·simp only [Act.put, List.setIfInBounds_toArray, List.set_cons_zero, List.set_cons_succ, i64_w, i32_w]
     rfl
    refine pure_ (i := 8) (N := some 64) (v := ?_) (a' := ?_) #[tt_,tt_,tt_,tt_,tt_,tt_,tt_,tt_,tt_,ff_,ff_,ff_,ff_,ff_,ff_] rfl rfl (by kernel_rfl) (fun _ _ _ h => h) (Or.inl ⟨by rfl, ?_⟩) ?_ ?_
    rotate_left
    ·intro w'
     go_simp
     with_reducible rfl
    rotate_left
    ·simp only [Act.put, List.setIfInBounds_toArray, List.set_cons_zero, List.set_cons_succ, i64_w, i32_w]
     rfl
    refine one_ (i := 9) (N := some 65) #[tt_,tt_,tt_,tt_,tt_,tt_,tt_,tt_,tt_,tt_,ff_,ff_,ff_,ff_,ff_] rfl rfl (by kernel_rfl) (by decide) (fun K hK => ?_)
    refine goes_ Try.func92 (by kernel_rfl) rfl #[.pointer (some ⟨gr, 0, none⟩), .int .i64 (N : Int)] (by rfl) rfl rfl (by (try simp only [List.map_toArray, List.map_cons, List.map_nil]); rfl) ?_
    refine (take_short gr 0 N 12 cap (some ad) b _ ((blk_cell G18.out 0).trans rfl) ((blk_cell G18.out 1).trans rfl) HL.out HL2.out HNS.out HN2.out).mono ?_
    rintro e w19 ⟨rfl, hb⟩
    refine ⟨_, rfl, ?_⟩
    have R19 := Aside0.mk (blk_below R18.out hb)
    have G19 := Aside0.mk (blk_below G18.out hb)
    have T19 := Aside0.mk (T18.out.below hb)
    have F19 := Aside0.mk (blk_below F18.out hb)
    have B19 := Aside0.mk (below_step B18.out hb)
    clear hb
    refine hK.out _ _ ⟨(blk_cell F19.out 0).trans rfl, (blk_cell F19.out 1).trans rfl, (blk_cell F19.out 2).trans rfl, (blk_cell F19.out 3).trans rfl, (blk_cell F19.out 4).trans rfl⟩ (fun hHeld => ?_)
    clear hK K
    refine norm_ (a' := ?_) ?_ ?_
    rotate_left
    ·show Act.put _ (some 65) _ = _
     simp only [Act.put, List.setIfInBounds_toArray, List.set_cons_zero, List.set_cons_succ, i64_w, i32_w]
     rfl
    refine pure_ (i := 10) (N := some 55) (v := ?_) (a' := ?_) #[tt_,tt_,tt_,tt_,tt_,tt_,tt_,tt_,tt_,tt_,tt_,ff_,ff_,ff_,ff_] rfl rfl (by kernel_rfl) (fun _ _ _ h => h) (Or.inl ⟨by rfl, ?_⟩) ?_ ?_
    rotate_left
    ·intro w'
     go_simp
     with_reducible rfl
    rotate_left
    ·simp only [Act.put, List.setIfInBounds_toArray, List.set_cons_zero, List.set_cons_succ, i64_w, i32_w]
     rfl
    refine pure_ (i := 11) (N := some 66) (v := ?_) (a' := ?_) #[tt_,tt_,tt_,tt_,tt_,tt_,tt_,tt_,tt_,tt_,tt_,tt_,ff_,ff_,ff_] rfl rfl (by kernel_rfl) (fun _ _ _ h => h) (Or.inl ⟨by rfl, ?_⟩) ?_ ?_
    rotate_left
    ·intro w'
     go_simp
     with_reducible rfl
    rotate_left
    ·simp only [Act.put, List.setIfInBounds_toArray, List.set_cons_zero, List.set_cons_succ, i64_w, i32_w]
     rfl
    refine pure_ (i := 12) (N := some 67) (v := ?_) (a' := ?_) #[tt_,tt_,tt_,tt_,tt_,tt_,tt_,tt_,tt_,tt_,tt_,tt_,tt_,ff_,ff_] rfl rfl (by kernel_rfl) (fun _ _ _ h => h) (Or.inl ⟨by rfl, ?_⟩) ?_ ?_
    rotate_left
    ·intro w'
     go_simp
     with_reducible rfl
    rotate_left
    ·simp only [Act.put, List.setIfInBounds_toArray, List.set_cons_zero, List.set_cons_succ, i64_w, i32_w]
     rfl
    refine pure_ (i := 13) (N := some 9) (v := ?_) (a' := ?_) #[tt_,tt_,tt_,tt_,tt_,tt_,tt_,tt_,tt_,tt_,tt_,tt_,tt_,tt_,ff_] rfl rfl (by kernel_rfl) (fun _ _ _ h => h) (Or.inl ⟨by rfl, ?_⟩) ?_ ?_
    rotate_left
    ·intro w'
     go_simp
     with_reducible rfl
    rotate_left
    ·simp only [Act.put, List.setIfInBounds_toArray, List.set_cons_zero, List.set_cons_succ, i64_w, i32_w]
     rfl
    refine pure_ (i := 14) (N := some 6) (v := ?_) (a' := ?_) #[tt_,tt_,tt_,tt_,tt_,tt_,tt_,tt_,tt_,tt_,tt_,tt_,tt_,tt_,tt_] rfl rfl (by kernel_rfl) (fun _ _ _ h => h) (Or.inl ⟨by rfl, ?_⟩) ?_ ?_
    rotate_left
    ·intro w'
     go_simp
     with_reducible rfl
    rotate_left
    ·simp only [Act.put, List.setIfInBounds_toArray, List.set_cons_zero, List.set_cons_succ, i64_w, i32_w]
     rfl
    refine done_ (by kernel_rfl) ?_
    have o0 := (blk_cell R19.out 0).trans rfl
    have o1 := (blk_cell R19.out 1).trans rfl
    have o2 := (blk_cell R19.out 2).trans rfl
    have o3 := (blk_cell R19.out 3).trans rfl
    have o4 := (blk_cell R19.out 4).trans rfl
    have o5 := (blk_cell R19.out 5).trans rfl
    have o6 := (blk_cell R19.out 6).trans rfl
    have o7 := (blk_cell R19.out 7).trans rfl
    have o8 := (blk_cell R19.out 8).trans rfl
    have fo0 := blk_frozen R19.out 0
    have fo1 := blk_frozen R19.out 1
    have fo2 := blk_frozen R19.out 2
    have fo3 := blk_frozen R19.out 3
    have fo4 := blk_frozen R19.out 4
    have fo5 := blk_frozen R19.out 5
    have fo6 := blk_frozen R19.out 6
    have fo7 := blk_frozen R19.out 7
    have fo8 := blk_frozen R19.out 8
    go_wp2
    obtain ⟨wz, hwz⟩ : ∃ wz, wz = (((((((((w19.setCell ⟨gR, 0, none⟩ (.int .i64 0)).setCell ⟨gR, 1, none⟩ (.int .i64 0)).setCell ⟨gR, 2, none⟩ (.int .i64 0)).setCell ⟨gR, 3, none⟩ (.int .i64 0)).setCell ⟨gR, 4, none⟩ (.int .i64 0)).setCell ⟨gR, 5, none⟩ (.pointer none)).setCell ⟨gR, 6, none⟩ (.slice none 0 0)).setCell ⟨gR, 7, none⟩ (.slice none 0 0)).setCell ⟨gR, 8, none⟩ (.int .i64 0)) := ⟨_, rfl⟩
    rw [← hwz]
    obtain ⟨hGz, hstz, hblz⟩ := put9 R19.out hwz
    refine bodyPost_ret (results_ct rfl _ _ gR 121 #[.int .i64 0, .int .i64 0, .int .i64 0, .int .i64 0, .int .i64 0, .pointer none, .slice none 0 0, .slice none 0 0, .int .i64 0] (0, 0) _ rfl hGz Try.underlying121 rfl (by kernel_rfl)) rfl ?_
    exact ⟨B19.out.trans (hblz _ GR.out), .inl ⟨by rw [HE.out]; decide, by rw [HE.out]; rfl⟩⟩
   ·have HNL : Aside0 (12 + N ≤ b.length) := ⟨by omega⟩
    clear hsh
    have w1' := wrapI ht2 ht4
    have w2' := wrapI ht3 HN2.out
    have w3' := wrapI ht5 HN2.out
    clear ht2 ht3 ht4 ht5 hNb hN2
    go_wp2
    refine start_ (n := 15) (S := fun w' => w'.cell? ⟨gf, 0, none⟩ = some (.int .i64 (sp : Int)) ∧ w'.cell? ⟨gf, 1, none⟩ = some (.int .i64 (pl : Int)) ∧ w'.cell? ⟨gf, 2, none⟩ = some (.int .i64 (W : Int)) ∧ w'.cell? ⟨gf, 3, none⟩ = some (.int .i64 (H : Int)) ∧ w'.cell? ⟨gf, 4, none⟩ = some (.int .i64 (S : Int))) (ds := []) #[ff_,ff_,ff_,ff_,ff_,ff_,ff_,ff_,ff_,ff_,ff_,ff_,ff_,ff_,ff_] (by kernel_rfl) rfl rfl ⟨(blk_cell F17.out 0).trans rfl, (blk_cell F17.out 1).trans rfl, (blk_cell F17.out 2).trans rfl, (blk_cell F17.out 3).trans rfl, (blk_cell F17.out 4).trans rfl⟩ (fun hHeld => ?_)
    generalize w16.drew = wd2 at *
    refine pure_ (i := 0) (N := some 56) (v := ?_) (a' := ?_) #[tt_,ff_,ff_,ff_,ff_,ff_,ff_,ff_,ff_,ff_,ff_,ff_,ff_,ff_,ff_] rfl rfl (by kernel_rfl) (fun _ _ _ h => h) (Or.inl ⟨by rfl, ?_⟩) ?_ ?_
    rotate_left
    ·intro w'
     go_simp
     with_reducible rfl
    rotate_left
    ·simp only [Act.put, List.setIfInBounds_toArray, List.set_cons_zero, List.set_cons_succ, i64_w, i32_w]
     rfl
    refine pure_ (i := 4) (N := some 60) (v := ?_) (a' := ?_) #[tt_,ff_,ff_,ff_,tt_,ff_,ff_,ff_,ff_,ff_,ff_,ff_,ff_,ff_,ff_] rfl rfl (by kernel_rfl) (fun _ _ _ h => h) (Or.inl ⟨by rfl, ?_⟩) ?_ ?_
    rotate_left
    ·intro w'
     go_simp
     with_reducible rfl
    rotate_left
    ·simp only [Act.put, List.setIfInBounds_toArray, List.set_cons_zero, List.set_cons_succ, i64_w, i32_w]
     rfl
    refine pure_ (i := 5) (N := some 61) (v := ?_) (a' := ?_) #[tt_,ff_,ff_,ff_,tt_,tt_,ff_,ff_,ff_,ff_,ff_,ff_,ff_,ff_,ff_] rfl rfl (by kernel_rfl) (fun _ _ _ h => h) (Or.inl ⟨by rfl, ?_⟩) ?_ ?_
    rotate_left
    ·intro w'
     go_simp
     with_reducible rfl
    rotate_left
    ·simp only [Act.put, List.setIfInBounds_toArray, List.set_cons_zero, List.set_cons_succ, i64_w, i32_w]
     rfl
    refine pure_ (i := 6) (N := some 62) (v := ?_) (a' := ?_) #[tt_,ff_,ff_,ff_,tt_,tt_,tt_,ff_,ff_,ff_,ff_,ff_,ff_,ff_,ff_] rfl rfl (by kernel_rfl) (fun _ _ _ h => h) (Or.inl ⟨by rfl, ?_⟩) ?_ ?_
    rotate_left
    ·intro w'
     go_simp
     with_reducible rfl
    rotate_left
    ·simp only [Act.put, List.setIfInBounds_toArray, List.set_cons_zero, List.set_cons_succ, i64_w, i32_w]
     rfl
    refine take_ (i := 1) (N := some 57) (v := ?_) (a' := ?_) #[tt_,tt_,ff_,ff_,tt_,tt_,tt_,ff_,ff_,ff_,ff_,ff_,ff_,ff_,ff_] rfl rfl (by kernel_rfl) (fun _ _ _ h => h) (Or.inl ⟨by rfl, ?_⟩) hHeld ?_ ?_
    rotate_left
    ·rintro w' ⟨s0, s1, s2, s3, s4⟩
     go_simp
     with_reducible rfl
    rotate_left
    ·simp only [Act.put, List.setIfInBounds_toArray, List.set_cons_zero, List.set_cons_succ, i64_w, i32_w]
     rfl
    refine take_ (i := 7) (N := some 63) (v := ?_) (a' := ?_) #[tt_,tt_,ff_,ff_,tt_,tt_,tt_,tt_,ff_,ff_,ff_,ff_,ff_,ff_,ff_] rfl rfl (by kernel_rfl) (fun _ _ _ h => h) (Or.inl ⟨by rfl, ?_⟩) hHeld ?_ ?_
    rotate_left
    ·rintro w' ⟨s0, s1, s2, s3, s4⟩
     go_simp
     with_reducible rfl
    rotate_left
    ·simp only [Act.put, List.setIfInBounds_toArray, List.set_cons_zero, List.set_cons_succ, i64_w, i32_w]
     rfl
    refine one_ (i := 2) (N := some 58) #[tt_,tt_,tt_,ff_,tt_,tt_,tt_,tt_,ff_,ff_,ff_,ff_,ff_,ff_,ff_] rfl rfl (by kernel_rfl) (by decide) (fun K hK => ?_)
    refine goes_ Try.func66 (by kernel_rfl) rfl #[.agg #[.int .i64 (sp : Int), .int .i64 (pl : Int), .int .i64 (W : Int), .int .i64 (H : Int), .int .i64 (S : Int)]] (by rfl) rfl rfl (by (try simp only [List.map_toArray, List.map_cons, List.map_nil]); rfl) ?_
    with_reducible refine (codec_grid_tiles.calls (sp : Int) (pl : Int) (W : Int) (H : Int) (S : Int) (T : Int) _ HTF.out).mono ?_
    rintro e w18 ⟨rfl, hb⟩
    refine ⟨_, rfl, ?_⟩
    have R18 := Aside0.mk (blk_below R17.out hb)
    have G18 := Aside0.mk (blk_below G17.out hb)
    have T18 := Aside0.mk (T17.out.below hb)
    have F18 := Aside0.mk (blk_below F17.out hb)
    have B18 := Aside0.mk (below_step B17.out hb)
    clear hb
    refine hK.out _ _ ⟨(blk_cell F18.out 0).trans rfl, (blk_cell F18.out 1).trans rfl, (blk_cell F18.out 2).trans rfl, (blk_cell F18.out 3).trans rfl, (blk_cell F18.out 4).trans rfl⟩ (fun hHeld => ?_)
    clear hK K
    refine norm_ (a' := ?_) ?_ ?_
    rotate_left
    ·show Act.put _ (some 58) _ = _
     simp only [Act.put, List.setIfInBounds_toArray, List.set_cons_zero, List.set_cons_succ, i64_w, i32_w]
     rfl
    refine pure_ (i := 3) (N := some 59) (v := ?_) (a' := ?_) #[tt_,tt_,tt_,tt_,tt_,tt_,tt_,tt_,ff_,ff_,ff_,ff_,ff_,ff_,ff_] rfl rfl (by kernel_rfl) (fun _ _ _ h => h) (Or.inl ⟨by rfl, ?_⟩) ?_ ?_
    rotate_left
    ·intro w'
     go_simp
     with_reducible rfl
    rotate_left
    ·simp only [Act.put, List.setIfInBounds_toArray, List.set_cons_zero, List.set_cons_succ, i64_w, i32_w]
     rfl
    refine pure_ (i := 8) (N := some 64) (v := ?_) (a' := ?_) #[tt_,tt_,tt_,tt_,tt_,tt_,tt_,tt_,tt_,ff_,ff_,ff_,ff_,ff_,ff_] rfl rfl (by kernel_rfl) (fun _ _ _ h => h) (Or.inl ⟨by rfl, ?_⟩) ?_ ?_
    rotate_left
    ·intro w'
     go_simp
     with_reducible rfl
    rotate_left
    ·simp only [Act.put, List.setIfInBounds_toArray, List.set_cons_zero, List.set_cons_succ, i64_w, i32_w]
     rfl
    refine one_ (i := 9) (N := some 65) #[tt_,tt_,tt_,tt_,tt_,tt_,tt_,tt_,tt_,tt_,ff_,ff_,ff_,ff_,ff_] rfl rfl (by kernel_rfl) (by decide) (fun K hK => ?_)
    refine goes_ Try.func92 (by kernel_rfl) rfl #[.pointer (some ⟨gr, 0, none⟩), .int .i64 (N : Int)] (by rfl) rfl rfl (by (try simp only [List.map_toArray, List.map_cons, List.map_nil]); rfl) ?_
    refine (take_calls gr 0 N 12 cap ad b w _ HC.out ((blk_cell G18.out 0).trans rfl) ((blk_cell G18.out 1).trans rfl) (blk_frozen G18.out 1) HCAP.out HL.out HL2.out HNL.out).mono ?_
    rintro e w19 ⟨A2, k2, rfl, hC2, hw2⟩
    refine ⟨_, rfl, ?_⟩
    have X19 := Aside0.mk (takeW G18.out hw2)
    have C19 := Aside0.mk hC2
    have R19 := Aside0.mk ((X19.out.2.1 gR (blk_ne R18.out G18.out (by decide))).trans R18.out)
    have F19 := Aside0.mk ((X19.out.2.1 gf (blk_ne F18.out G18.out (by decide))).trans F18.out)
    have G19 : Aside0 (w19.heap[gr]? = some (.cells #[.slice (some ad) b.length cap, .int .i64 ((12 + N : Nat) : Int)] 119 (0, 0))) := ⟨X19.out.1⟩
    have T19 : Aside0 (TB w19 gT) := ⟨by obtain ⟨ct, hct⟩ := T18.out.block; exact T18.out.move (X19.out.2.1 gT (blk_ne hct G18.out (by decide)))⟩
    have B19 := Aside0.mk (B18.out.trans (X19.out.2.2 _ GR4.out))
    clear hC2 hw2
    refine hK.out _ _ ⟨(blk_cell F19.out 0).trans rfl, (blk_cell F19.out 1).trans rfl, (blk_cell F19.out 2).trans rfl, (blk_cell F19.out 3).trans rfl, (blk_cell F19.out 4).trans rfl⟩ (fun hHeld => ?_)
    clear hK K
    refine norm_ (a' := ?_) ?_ ?_
    rotate_left
    ·show Act.put _ (some 65) _ = _
     simp only [Act.put, List.setIfInBounds_toArray, List.set_cons_zero, List.set_cons_succ, i64_w, i32_w]
     rfl
    refine pure_ (i := 10) (N := some 55) (v := ?_) (a' := ?_) #[tt_,tt_,tt_,tt_,tt_,tt_,tt_,tt_,tt_,tt_,tt_,ff_,ff_,ff_,ff_] rfl rfl (by kernel_rfl) (fun _ _ _ h => h) (Or.inl ⟨by rfl, ?_⟩) ?_ ?_
    rotate_left
    ·intro w'
     go_simp
     with_reducible rfl
    rotate_left
    ·simp only [Act.put, List.setIfInBounds_toArray, List.set_cons_zero, List.set_cons_succ, i64_w, i32_w]
     rfl
    refine pure_ (i := 11) (N := some 66) (v := ?_) (a' := ?_) #[tt_,tt_,tt_,tt_,tt_,tt_,tt_,tt_,tt_,tt_,tt_,tt_,ff_,ff_,ff_] rfl rfl (by kernel_rfl) (fun _ _ _ h => h) (Or.inl ⟨by rfl, ?_⟩) ?_ ?_
    rotate_left
    ·intro w'
     go_simp
     with_reducible rfl
    rotate_left
    ·simp only [Act.put, List.setIfInBounds_toArray, List.set_cons_zero, List.set_cons_succ, i64_w, i32_w]
     rfl
    refine pure_ (i := 12) (N := some 67) (v := ?_) (a' := ?_) #[tt_,tt_,tt_,tt_,tt_,tt_,tt_,tt_,tt_,tt_,tt_,tt_,tt_,ff_,ff_] rfl rfl (by kernel_rfl) (fun _ _ _ h => h) (Or.inl ⟨by rfl, ?_⟩) ?_ ?_
    rotate_left
    ·intro w'
     go_simp
     with_reducible rfl
    rotate_left
    ·simp only [Act.put, List.setIfInBounds_toArray, List.set_cons_zero, List.set_cons_succ, i64_w, i32_w]
     rfl
    refine pure_ (i := 13) (N := some 9) (v := ?_) (a' := ?_) #[tt_,tt_,tt_,tt_,tt_,tt_,tt_,tt_,tt_,tt_,tt_,tt_,tt_,tt_,ff_] rfl rfl (by kernel_rfl) (fun _ _ _ h => h) (Or.inl ⟨by rfl, ?_⟩) ?_ ?_
    rotate_left
    ·intro w'
     go_simp
     with_reducible rfl
    rotate_left
    ·simp only [Act.put, List.setIfInBounds_toArray, List.set_cons_zero, List.set_cons_succ, i64_w, i32_w]
     rfl
    refine pure_ (i := 14) (N := some 6) (v := ?_) (a' := ?_) #[tt_,tt_,tt_,tt_,tt_,tt_,tt_,tt_,tt_,tt_,tt_,tt_,tt_,tt_,tt_] rfl rfl (by kernel_rfl) (fun _ _ _ h => h) (Or.inl ⟨by rfl, ?_⟩) ?_ ?_
    rotate_left
    ·intro w'
     go_simp
     with_reducible rfl
    rotate_left
    ·simp only [Act.put, List.setIfInBounds_toArray, List.set_cons_zero, List.set_cons_succ, i64_w, i32_w]
     rfl
    refine done_ (by kernel_rfl) ?_
    obtain ⟨at1, hat1⟩ : ∃ a, a = 12 + N := ⟨_, rfl⟩
    rw [← hat1] at G19
    have g1 := (blk_cell G19.out 1).trans rfl
    have HAT : Aside0 (at1 ≤ b.length) := ⟨by rw [hat1]; exact HNL.out⟩
    have HA1 := Aside0.mk hat1
    by_cases hsh2 : b.length < 16 + N
    ·have HNS : Aside0 (b.length < at1 + 4) := ⟨by omega⟩
     have HE : Aside0 (openE b = 182) := ⟨by unfold openE; rw [if_neg (by have := HL3.out; omega), if_neg (by have := HL.out; omega), if_neg (by rw [HMV.out, HMG.out]; simp), HNB.out, if_neg (by have := HNL.out; omega), if_pos hsh2]⟩
     clear hsh2 hat1
     go_wp2_with (go_at_call 92; with_reducible refine (take4_short gr 0 at1 cap (some ad) b _ ?h1 ?h2 ?h3 ?h4 ?h5).mono ?_; (case h1 => exact cell_at2a G19.out); (case h2 => exact cell_at2b G19.out); (case h3 => exact HAT.out); (case h4 => exact HL2.out); (case h5 => exact HNS.out); rintro e w20 ⟨rfl, hb⟩; have R20 := Aside0.mk (blk_below R19.out hb); have B20 := Aside0.mk (below_step B19.out hb); clear hb; have o0 := (blk_cell R20.out 0).trans rfl; have o1 := (blk_cell R20.out 1).trans rfl; have o2 := (blk_cell R20.out 2).trans rfl; have o3 := (blk_cell R20.out 3).trans rfl; have o4 := (blk_cell R20.out 4).trans rfl; have o5 := (blk_cell R20.out 5).trans rfl; have o6 := (blk_cell R20.out 6).trans rfl; have o7 := (blk_cell R20.out 7).trans rfl; have o8 := (blk_cell R20.out 8).trans rfl; have fo0 := blk_frozen R20.out 0; have fo1 := blk_frozen R20.out 1; have fo2 := blk_frozen R20.out 2; have fo3 := blk_frozen R20.out 3; have fo4 := blk_frozen R20.out 4; have fo5 := blk_frozen R20.out 5; have fo6 := blk_frozen R20.out 6; have fo7 := blk_frozen R20.out 7; have fo8 := blk_frozen R20.out 8)
     obtain ⟨wz, hwz⟩ : ∃ wz, wz = (((((((((w20.setCell ⟨gR, 0, none⟩ (.int .i64 0)).setCell ⟨gR, 1, none⟩ (.int .i64 0)).setCell ⟨gR, 2, none⟩ (.int .i64 0)).setCell ⟨gR, 3, none⟩ (.int .i64 0)).setCell ⟨gR, 4, none⟩ (.int .i64 0)).setCell ⟨gR, 5, none⟩ (.pointer none)).setCell ⟨gR, 6, none⟩ (.slice none 0 0)).setCell ⟨gR, 7, none⟩ (.slice none 0 0)).setCell ⟨gR, 8, none⟩ (.int .i64 0)) := ⟨_, rfl⟩
     rw [← hwz]
     obtain ⟨hGz, hstz, hblz⟩ := put9 R20.out hwz
     refine bodyPost_ret (results_ct rfl _ _ gR 121 #[.int .i64 0, .int .i64 0, .int .i64 0, .int .i64 0, .int .i64 0, .pointer none, .slice none 0 0, .slice none 0 0, .int .i64 0] (0, 0) _ rfl hGz Try.underlying121 rfl (by kernel_rfl)) rfl ?_
     exact ⟨B20.out.trans (hblz _ GR.out), .inl ⟨by rw [HE.out]; decide, by rw [HE.out]; rfl⟩⟩
    ·have HNL2 : Aside0 (at1 + 4 ≤ b.length) := ⟨by omega⟩
     have HNN2 := Aside0.mk (show ¬ b.length < 16 + N from hsh2)
     have HAT4 : Aside0 (at1 + 4 = 16 + N) := ⟨by omega⟩
     clear hsh2 hat1
     go_wp2_with (go_at_call 92; with_reducible refine (take4 gr 0 at1 cap ad b w _ HC.out ?h1 ?h2 ?h3 HCAP.out HL2.out HNL2.out).mono ?_; (case h1 => exact cell_at2a G19.out); (case h2 => exact cell_at2b G19.out); (case h3 => exact blk_frozen G19.out 1); rintro e w20 ⟨A3, k3', rfl, hC3, hw3⟩; have X20 := Aside0.mk (takeW G19.out hw3); have C20 := Aside0.mk hC3; have R20 := Aside0.mk ((X20.out.2.1 gR (blk_ne R19.out G19.out (by decide))).trans R19.out); have F20 := Aside0.mk ((X20.out.2.1 gf (blk_ne F19.out G19.out (by decide))).trans F19.out); have T20 : Aside0 (TB w20 gT) := ⟨by obtain ⟨ct, hct⟩ := T19.out.block; exact T19.out.move (X20.out.2.1 gT (blk_ne hct G19.out (by decide)))⟩; have B20 := Aside0.mk (B19.out.trans (X20.out.2.2 _ GR4.out)); clear hC3 hw3 g1)
     obtain ⟨at2, hat2⟩ : ∃ a, a = at1 + 4 := ⟨_, rfl⟩
     have HAT5 : Aside0 (at2 = 16 + N) := ⟨by rw [hat2]; exact HAT4.out⟩
     have G20 : Aside0 (w20.heap[gr]? = some (.cells #[.slice (some ad) b.length cap, .int .i64 (at2 : Int)] 119 (0, 0))) := ⟨by rw [hat2]; exact X20.out.1⟩
     clear hat2
     have HL4 : Aside0 ((subN b at1 4).length = 4) := ⟨subN_length HNL2.out⟩
     have HS8 : Aside0 (∀ i, gt (subN b at1 4) i < 256) := ⟨subN_lt H8.out⟩
     obtain ⟨s4, hs4⟩ : ∃ x, x = numL 0 (subN b at1 4) := ⟨_, rfl⟩
     obtain ⟨cr, hcr⟩ : ∃ x, x = crc (b.take at1) := ⟨_, rfl⟩
     have HS4 := Aside0.mk hs4
     have HCR := Aside0.mk hcr
     have HL60 : Aside0 (b.length < 1152921504606846976) := ⟨by have := HL3.out; omega⟩
     have hcr2 : cr < 4294967296 := by rw [hcr]; exact crc_lt (gt_lt_of (by decide) (fun x hx => mem_lt_of H8.out x (List.mem_of_mem_take hx)))
     have hcr3 : cr < 4611686018427387904 := by omega
     have hac : (at1 : Int) ≤ (cap : Int) := by have := HAT.out; have := HCAP.out; omega
     have hac2 : at1 ≤ cap := by omega
     have R21 := Aside0.mk (blk_drew R20.out); have G21 := Aside0.mk (blk_drew G20.out); have F21 := Aside0.mk (blk_drew F20.out); have T21 := Aside0.mk (T20.out.below (below_drew1 (Below.refl _ w20))); have B21 := Aside0.mk (below_drew1 B20.out)
     clear hs4 hcr R20 G20 F20 T20 B20 X20
     by_cases hsc : s4 = cr
     ·have tsc : ((s4 : Int) != (cr : Int)) = false := by rw [bne_eq_false_iff_eq, hsc]
      have tsc2 : (s4 != cr) = false := by rw [bne_eq_false_iff_eq]; exact hsc
      have HE : Aside0 (openE b = 0) := ⟨by unfold openE; rw [if_neg (by have := HL3.out; omega), if_neg (by have := HL.out; omega), if_neg (by rw [HMV.out, HMG.out]; simp), HNB.out, if_neg (by have := HNL.out; omega), if_neg HNN2.out, ← HA1.out, ← HS4.out, ← HCR.out, if_neg (fun h => h hsc)]⟩
      have HSC := Aside0.mk hsc
      clear hsc hcr2
      have wcr := wrapI (rfl : (cr : Int) = (cr : Int)) hcr3
      clear hcr3
      refine start_ (n := 10) (S := fun w' => w'.cell? ⟨gf, 5, none⟩ = some (.pointer (some ⟨gT, 0, none⟩))) (ds := []) #[ff_,ff_,ff_,ff_,ff_,ff_,ff_,ff_,ff_,ff_] (by kernel_rfl) rfl rfl ((blk_cell F21.out 5).trans rfl) (fun hHeld => ?_)
      generalize w20.drew = wd3 at *
      refine pure_ (i := 0) (N := some 80) (v := ?_) (a' := ?_) #[tt_,ff_,ff_,ff_,ff_,ff_,ff_,ff_,ff_,ff_] rfl rfl (by kernel_rfl) (fun _ _ _ h => h) (Or.inl ⟨by rfl, ?_⟩) ?_ ?_
      rotate_left
      ·intro w'
       go_simp
       with_reducible rfl
      rotate_left
      ·simp only [Act.put, List.setIfInBounds_toArray, List.set_cons_zero, List.set_cons_succ, i64_w, i32_w]
       rfl
      refine pure_ (i := 2) (N := some 82) (v := ?_) (a' := ?_) #[tt_,ff_,tt_,ff_,ff_,ff_,ff_,ff_,ff_,ff_] rfl rfl (by kernel_rfl) (fun _ _ _ h => h) (Or.inl ⟨by rfl, ?_⟩) ?_ ?_
      rotate_left
      ·intro w'
       go_simp
       with_reducible rfl
      rotate_left
      ·simp only [Act.put, List.setIfInBounds_toArray, List.set_cons_zero, List.set_cons_succ, i64_w, i32_w]
       rfl
      refine pure_ (i := 4) (N := some 84) (v := ?_) (a' := ?_) #[tt_,ff_,tt_,ff_,tt_,ff_,ff_,ff_,ff_,ff_] rfl rfl (by kernel_rfl) (fun _ _ _ h => h) (Or.inl ⟨by rfl, ?_⟩) ?_ ?_
      rotate_left
      ·intro w'
       go_simp
       with_reducible rfl
      rotate_left
      ·simp only [Act.put, List.setIfInBounds_toArray, List.set_cons_zero, List.set_cons_succ, i64_w, i32_w]
       rfl
      refine pure_ (i := 5) (N := some 85) (v := ?_) (a' := ?_) #[tt_,ff_,tt_,ff_,tt_,tt_,ff_,ff_,ff_,ff_] rfl rfl (by kernel_rfl) (fun _ _ _ h => h) (Or.inl ⟨by rfl, ?_⟩) ?_ ?_
      rotate_left
      ·intro w'
       go_simp
       with_reducible rfl
      rotate_left
      ·simp only [Act.put, List.setIfInBounds_toArray, List.set_cons_zero, List.set_cons_succ, i64_w, i32_w]
       rfl
      refine pure_ (i := 6) (N := some 86) (v := ?_) (a' := ?_) #[tt_,ff_,tt_,ff_,tt_,tt_,tt_,ff_,ff_,ff_] rfl rfl (by kernel_rfl) (fun _ _ _ h => h) (Or.inl ⟨by rfl, ?_⟩) ?_ ?_
      rotate_left
      ·intro w'
       go_simp
       with_reducible rfl
      rotate_left
      ·simp only [Act.put, List.setIfInBounds_toArray, List.set_cons_zero, List.set_cons_succ, i64_w, i32_w]
       rfl
      refine take_ (i := 3) (N := some 83) (v := ?_) (a' := ?_) #[tt_,ff_,tt_,tt_,tt_,tt_,tt_,ff_,ff_,ff_] rfl rfl (by kernel_rfl) (fun _ _ _ h => h) (Or.inl ⟨by rfl, ?_⟩) hHeld ?_ ?_
      rotate_left
      ·intro w' s0
       go_simp
       with_reducible rfl
      rotate_left
      ·simp only [Act.put, List.setIfInBounds_toArray, List.set_cons_zero, List.set_cons_succ, i64_w, i32_w]
       rfl
      refine one_ (i := 1) (N := some 81) #[tt_,tt_,tt_,tt_,tt_,tt_,tt_,ff_,ff_,ff_] rfl rfl (by kernel_rfl) (by decide) (fun K hK => ?_)
      refine goes_ Try.func94 (by kernel_rfl) rfl #[.slice A3 4 4] (by rfl) rfl rfl (by (try simp only [List.map_toArray, List.map_cons, List.map_nil]); rfl) ?_
      refine (number4 HL4.out (Kd.C_below C20.out B21.out) (Nat.le_refl 4) HS8.out).mono ?_
      rw [← HS4.out]
      rintro e w22 ⟨rfl, hb⟩
      refine ⟨_, rfl, ?_⟩
      have R22 := Aside0.mk (blk_below R21.out hb)
      have G22 := Aside0.mk (blk_below G21.out hb)
      have T22 := Aside0.mk (T21.out.below hb)
      have F22 := Aside0.mk (blk_below F21.out hb)
      have B22 := Aside0.mk (below_step B21.out hb)
      clear hb
      refine hK.out _ _ ((blk_cell F22.out 5).trans rfl) (fun hHeld => ?_)
      clear hK K
      refine norm_ (a' := ?_) ?_ ?_
      rotate_left
      ·show Act.put _ (some 81) _ = _
       simp only [Act.put, List.setIfInBounds_toArray, List.set_cons_zero, List.set_cons_succ, i64_w, i32_w]
       rfl
      refine one_ (i := 7) (N := some 87) #[tt_,tt_,tt_,tt_,tt_,tt_,tt_,tt_,ff_,ff_] rfl rfl (by kernel_rfl) (by decide) (fun K hK => ?_)
      refine goes_ Try.func46 (by kernel_rfl) rfl #[.pointer (some ⟨gT, 0, none⟩), .slice (some ad) at1 cap] (by rfl) rfl rfl (by (try simp only [List.map_toArray, List.map_cons, List.map_nil]); rfl) ?_
      refine (sum_at T22.out (Kd.C_below HC.out B22.out) HAT.out HCAP.out H8.out HL60.out).mono ?_
      rw [← HCR.out]
      rintro e w23 ⟨rfl, hb⟩
      refine ⟨_, rfl, ?_⟩
      have R23 := Aside0.mk (blk_below R22.out hb)
      have G23 := Aside0.mk (blk_below G22.out hb)
      have T23 := Aside0.mk (T22.out.below hb)
      have F23 := Aside0.mk (blk_below F22.out hb)
      have B23 := Aside0.mk (below_step B22.out hb)
      clear hb
      refine hK.out _ _ ((blk_cell F23.out 5).trans rfl) (fun hHeld => ?_)
      clear hK K
      refine norm_ (a' := ?_) ?_ ?_
      rotate_left
      ·show Act.put _ (some 87) _ = _
       simp only [Act.put, List.setIfInBounds_toArray, List.set_cons_zero, List.set_cons_succ, i64_w, i32_w]
       rfl
      refine pure_ (i := 8) (N := some 88) (v := ?_) (a' := ?_) #[tt_,tt_,tt_,tt_,tt_,tt_,tt_,tt_,tt_,ff_] rfl rfl (by kernel_rfl) (fun _ _ _ h => h) (Or.inl ⟨by rfl, ?_⟩) ?_ ?_
      rotate_left
      ·intro w'
       go_simp
       with_reducible rfl
      rotate_left
      ·simp only [Act.put, List.setIfInBounds_toArray, List.set_cons_zero, List.set_cons_succ, i64_w, i32_w]
       rfl
      refine pure_ (i := 9) (N := some 89) (v := ?_) (a' := ?_) #[tt_,tt_,tt_,tt_,tt_,tt_,tt_,tt_,tt_,tt_] rfl rfl (by kernel_rfl) (fun _ _ _ h => h) (Or.inl ⟨by rfl, ?_⟩) ?_ ?_
      rotate_left
      ·intro w'
       go_simp
       with_reducible rfl
      rotate_left
      ·simp only [Act.put, List.setIfInBounds_toArray, List.set_cons_zero, List.set_cons_succ, i64_w, i32_w]
       rfl
      refine done_ (by kernel_rfl) ?_
      obtain ⟨K, hK'⟩ : ∃ K, K = T * pl := ⟨_, rfl⟩
      have hNK : N = 4 * K := by rw [hK', HNN.out, Nat.mul_assoc]
      have HNK := Aside0.mk hNK
      have HKK : Aside0 (hK b = K) := ⟨by rw [HKB.out, hK']⟩
      have hKb : K ≤ 262144 := by have h1 : T ≤ 65536 := by (rw [HTT.out]; exact tilesN_le HQ.out.2.2.2.2.2.2.2.2.1)
                                  have h2 := Nat.mul_le_mul h1 HQ.out.2.2.2.1
                                  rw [hK']; omega
      have HKB2 := Aside0.mk hKb
      clear hK' hNK hKb
      go_wp2
      have L0 : Aside0 (w23.heap[gR]? = some (.cells #[.int .i64 0, .int .i64 0, .int .i64 0, .int .i64 0, .int .i64 0, .pointer none, .slice none 0 0, .slice none 0 0, .int .i64 0] 121 (0, 0)) ∧ w23.heap[gr]? = some (.cells #[.slice (some ad) b.length cap, .int .i64 (at2 : Int)] 119 (0, 0)) ∧ w23.heap[gf]? = some (.cells #[.int .i64 (sp : Int), .int .i64 (pl : Int), .int .i64 (W : Int), .int .i64 (H : Int), .int .i64 (S : Int), .pointer (some ⟨gT, 0, none⟩), .slice none 0 0, .slice none 0 0, .int .i64 0] 121 (0, 0)) ∧ TB w23 gT ∧ Below w.heap.size w w23 ∧ (nat .i64).R 3 w23 w.heap.size (fun _ => True) (.slice none 0 0) []) := ⟨R23.out, G23.out, F23.out, T23.out, B23.out, Kd.R_nil _ _ _ _ _⟩
      obtain ⟨ys0, hys0⟩ : ∃ ys0 : List Nat, ys0 = [] := ⟨_, rfl⟩
      have L0' : Aside0 (w23.heap[gR]? = some (.cells #[.int .i64 0, .int .i64 0, .int .i64 0, .int .i64 0, .int .i64 0, .pointer none, .slice none 0 0, .slice none 0 0, .int .i64 0] 121 (0, 0)) ∧ w23.heap[gr]? = some (.cells #[.slice (some ad) b.length cap, .int .i64 (at2 : Int)] 119 (0, 0)) ∧ w23.heap[gf]? = some (.cells #[.int .i64 (sp : Int), .int .i64 (pl : Int), .int .i64 (W : Int), .int .i64 (H : Int), .int .i64 (S : Int), .pointer (some ⟨gT, 0, none⟩), .slice none ys0.length 0, .slice none 0 0, .int .i64 0] 121 (0, 0)) ∧ TB w23 gT ∧ Below w.heap.size w w23 ∧ (nat .i64).R 3 w23 w.heap.size (fun _ => True) (.slice none ys0.length 0) ys0) := ⟨by rw [hys0]; exact L0.out⟩
      have HY0 : Aside0 (ys0 = idxTo b 0) := ⟨hys0⟩
      clear L0 hys0
      go_loopw [12] (fun v Wd => ∃ (i4 j : Nat) (Av : Option Addr) (cv : Nat) (ys : List Nat), j ≤ K ∧ v = .int .i64 (i4 : Int) ∧ Aside0 (i4 = 4 * j) ∧ Aside0 (ys = idxTo b j) ∧ Aside0 (Wd.heap[gR]? = some (.cells #[.int .i64 0, .int .i64 0, .int .i64 0, .int .i64 0, .int .i64 0, .pointer none, .slice none 0 0, .slice none 0 0, .int .i64 0] 121 (0, 0)) ∧ Wd.heap[gr]? = some (.cells #[.slice (some ad) b.length cap, .int .i64 (at2 : Int)] 119 (0, 0)) ∧ Wd.heap[gf]? = some (.cells #[.int .i64 (sp : Int), .int .i64 (pl : Int), .int .i64 (W : Int), .int .i64 (H : Int), .int .i64 (S : Int), .pointer (some ⟨gT, 0, none⟩), .slice Av ys.length cv, .slice none 0 0, .int .i64 0] 121 (0, 0)) ∧ TB Wd gT ∧ Below w.heap.size w Wd ∧ (nat .i64).R 3 Wd w.heap.size (fun _ => True) (.slice Av ys.length cv) ys)) (fun v _ => N - (intOf v).toNat)
      case atStart => exact ⟨0, 0, none, 0, ys0, Nat.zero_le _, rfl, ⟨rfl⟩, HY0, L0'⟩
      case round =>
       clear L0' HY0 R23 G23 F23 T23 B23 R22 G22 F22 T22 B22 R21 G21 F21 T21 B21
       obtain ⟨i4, j, Av, cv, ys, hj, rfl, HI4, HY, HLI⟩ := hrel
       by_cases hjl : j < K
       ·have hi4 := HI4.out
        have hnk := HNK.out
        have hkb := HKB2.out
        have c1 : decide ((i4 : Int) < (N : Int)) = true := decide_eq_true (by omega)
        have c2 : decide (i4 < N) = true := decide_eq_true (by omega)
        obtain ⟨m, hm⟩ : ∃ m, m = i4 + 4 := ⟨_, rfl⟩
        have a1 : (i4 : Int) + 4 = (m : Int) := by omega
        have a2 : m < 4611686018427387904 := by omega
        have i1 : m ≤ N := by omega
        have i2 : i4 ≤ m := by omega
        have i3 : (m : Int) ≤ (N : Int) := by omega
        have i5 : (i4 : Int) ≤ (m : Int) := by omega
        have i6 : ¬ (m = i4) := by omega
        have i7 : ¬ (N = i4) := by omega
        have i8 : ¬ (N - i4 = 0) := by omega
        have i9 : m - i4 = 4 := by omega
        have HC4 : Aside0 (4 ≤ N - i4) := ⟨by omega⟩
        obtain ⟨ad2, e2, _⟩ := C_nat C19.out 0 (by omega)
        subst e2
        have hsl : (subN b 12 N).length = N := subN_length HNL.out
        have HCJ : Aside0 ((nat .u8).C w (some (ad2.add i4)) 4 (subN b (12 + i4) 4)) := ⟨by
         have h := C_sub (i := i4) (n := 4) (b := subN b 12 N) (by rw [hsl]; exact C19.out) (by rw [hsl]; omega)
         rw [← subN_subN b (n := N) (by omega)]; exact h⟩
        have HLJ : Aside0 ((subN b (12 + i4) 4).length = 4) := ⟨subN_length (by have := HNL.out; omega)⟩
        have HJ8 : Aside0 (∀ i, gt (subN b (12 + i4) 4) i < 256) := ⟨subN_lt H8.out⟩
        obtain ⟨nj, hnj⟩ : ∃ nj, nj = numL 0 (subN b (12 + i4) 4) := ⟨_, rfl⟩
        have HNJ := Aside0.mk hnj
        obtain ⟨ys', hys'⟩ : ∃ ys', ys' = ys ++ [nj] := ⟨_, rfl⟩
        have HYS := Aside0.mk hys'
        have HYN : Aside0 (ys' = idxTo b (j + 1)) := ⟨by rw [hys', idxTo_succ, hnj, HY.out, hi4]⟩
        have HYL : Aside0 ((ys.length + 1) * 8 ≤ 140737488355328) := ⟨by rw [HY.out, idxTo_length]; omega⟩
        have HMN : Aside0 (m = 4 * (j + 1)) := ⟨by omega⟩
        have HMM : Aside0 (N - m < N - i4) := ⟨by omega⟩
        have HJK : Aside0 (j + 1 ≤ K) := ⟨by omega⟩
        obtain ⟨hR, hG, hF, hTb, hB, hV⟩ := HLI.out
        have R30 := Aside0.mk (blk_drew hR); have G30 := Aside0.mk (blk_drew hG); have F30 := Aside0.mk (blk_drew hF); have T30 := Aside0.mk (hTb.below (below_drew1 (Below.refl _ wr))); have B30 := Aside0.mk (below_drew1 hB); have V30 := Aside0.mk (Kd.R_drew hV)
        clear hnj hys' hi4 hnk hkb hm hjl hj hsl hR hG hF hTb hB hV HLI
        have e1 := wrapI a1 a2
        have e2 := wrapJ a1 a2
        clear a1 a2
        go_wp2
        refine start_ (n := 12) (S := fun w' => w'.cell? ⟨gf, 6, none⟩ = some (.slice Av ys.length cv)) (ds := [11]) #[ff_,ff_,ff_,ff_,ff_,ff_,ff_,ff_,ff_,ff_,ff_,ff_] (by kernel_rfl) rfl rfl ((blk_cell F30.out 6).trans rfl) (fun hHeld => ?_)
        generalize wr.drew = wd4 at *
        refine pure_ (i := 0) (N := some 97) (v := ?_) (a' := ?_) #[tt_,ff_,ff_,ff_,ff_,ff_,ff_,ff_,ff_,ff_,ff_,ff_] rfl rfl (by kernel_rfl) (fun _ _ _ h => h) (Or.inl ⟨by rfl, ?_⟩) ?_ ?_
        rotate_left
        ·intro w'
         go_simp
         with_reducible rfl
        rotate_left
        ·simp only [Act.put, List.setIfInBounds_toArray, List.set_cons_zero, List.set_cons_succ, i64_w, i32_w]
         rfl
        refine pure_ (i := 2) (N := some 99) (v := ?_) (a' := ?_) #[tt_,ff_,tt_,ff_,ff_,ff_,ff_,ff_,ff_,ff_,ff_,ff_] rfl rfl (by kernel_rfl) (fun _ _ _ h => h) (Or.inl ⟨by rfl, ?_⟩) ?_ ?_
        rotate_left
        ·intro w'
         go_simp
         with_reducible rfl
        rotate_left
        ·simp only [Act.put, List.setIfInBounds_toArray, List.set_cons_zero, List.set_cons_succ, i64_w, i32_w]
         rfl
        refine pure_ (i := 3) (N := some 100) (v := ?_) (a' := ?_) #[tt_,ff_,tt_,tt_,ff_,ff_,ff_,ff_,ff_,ff_,ff_,ff_] rfl rfl (by kernel_rfl) (fun _ _ _ h => h) (Or.inl ⟨by rfl, ?_⟩) ?_ ?_
        rotate_left
        ·intro w'
         go_simp
         with_reducible rfl
        rotate_left
        ·simp only [Act.put, List.setIfInBounds_toArray, List.set_cons_zero, List.set_cons_succ, i64_w, i32_w]
         rfl
        refine pure_ (i := 4) (N := some 101) (v := ?_) (a' := ?_) #[tt_,ff_,tt_,tt_,tt_,ff_,ff_,ff_,ff_,ff_,ff_,ff_] rfl rfl (by kernel_rfl) (fun _ _ _ h => h) (Or.inl ⟨by rfl, ?_⟩) ?_ ?_
        rotate_left
        ·intro w'
         go_simp
         with_reducible rfl
        rotate_left
        ·simp only [Act.put, List.setIfInBounds_toArray, List.set_cons_zero, List.set_cons_succ, i64_w, i32_w]
         rfl
        refine pure_ (i := 5) (N := some 102) (v := ?_) (a' := ?_) #[tt_,ff_,tt_,tt_,tt_,tt_,ff_,ff_,ff_,ff_,ff_,ff_] rfl rfl (by kernel_rfl) (fun _ _ _ h => h) (Or.inl ⟨by rfl, ?_⟩) ?_ ?_
        rotate_left
        ·intro w'
         go_simp
         with_reducible rfl
        rotate_left
        ·simp only [Act.put, List.setIfInBounds_toArray, List.set_cons_zero, List.set_cons_succ, i64_w, i32_w]
         rfl
        refine pure_ (i := 6) (N := some 103) (v := ?_) (a' := ?_) #[tt_,ff_,tt_,tt_,tt_,tt_,tt_,ff_,ff_,ff_,ff_,ff_] rfl rfl (by kernel_rfl) (fun _ _ _ h => h) (Or.inl ⟨by rfl, ?_⟩) ?_ ?_
        rotate_left
        ·intro w'
         go_simp
         with_reducible rfl
        rotate_left
        ·simp only [Act.put, List.setIfInBounds_toArray, List.set_cons_zero, List.set_cons_succ, i64_w, i32_w]
         rfl
        refine take_ (i := 1) (N := some 98) (v := ?_) (a' := ?_) #[tt_,tt_,tt_,tt_,tt_,tt_,tt_,ff_,ff_,ff_,ff_,ff_] rfl rfl (by kernel_rfl) (fun _ _ _ h => h) (Or.inl ⟨by rfl, ?_⟩) hHeld ?_ ?_
        rotate_left
        ·intro w' s0
         go_simp
         with_reducible rfl
        rotate_left
        ·simp only [Act.put, List.setIfInBounds_toArray, List.set_cons_zero, List.set_cons_succ, i64_w, i32_w]
         rfl
        refine one_ (i := 7) (N := some 104) #[tt_,tt_,tt_,tt_,tt_,tt_,tt_,tt_,ff_,ff_,ff_,ff_] rfl rfl (by kernel_rfl) (by decide) (fun K hK => ?_)
        refine goes_ Try.func94 (by kernel_rfl) rfl #[.slice (some (ad2.add i4)) 4 (N - i4)] (by rfl) rfl rfl (by (try simp only [List.map_toArray, List.map_cons, List.map_nil]); rfl) ?_
        refine (number4 HLJ.out (Kd.C_below HCJ.out B30.out) HC4.out HJ8.out).mono ?_
        rw [← HNJ.out]
        rintro e w31 ⟨rfl, hb⟩
        refine ⟨_, rfl, ?_⟩
        have R31 := Aside0.mk (blk_below R30.out hb)
        have G31 := Aside0.mk (blk_below G30.out hb)
        have T31 := Aside0.mk (T30.out.below hb)
        have F31 := Aside0.mk (blk_below F30.out hb)
        have B31 := Aside0.mk (below_step B30.out hb)
        have V31 := Aside0.mk (Kd.R_below V30.out hb)
        clear hb
        refine hK.out _ _ ((blk_cell F31.out 6).trans rfl) (fun hHeld => ?_)
        clear hK K
        refine norm_ (a' := ?_) ?_ ?_
        rotate_left
        ·show Act.put _ (some 104) _ = _
         simp only [Act.put, List.setIfInBounds_toArray, List.set_cons_zero, List.set_cons_succ, i64_w, i32_w]
         rfl
        refine one_ (i := 8) (N := some 105) #[tt_,tt_,tt_,tt_,tt_,tt_,tt_,tt_,tt_,ff_,ff_,ff_] rfl rfl (by kernel_rfl) (by decide) (fun K hK => ?_)
        refine value_ (w1 := ?_) (v := ?_) (by rfl) rfl ?_ ?_
        rotate_left 2
        ·go_simp
         constructor
         ·rfl
         ·rfl
        refine hK.out _ _ ((blk_cell (blk_alloc F31.out _) 6).trans rfl) (fun hHeld => ?_)
        clear hK K
        refine norm_ (a' := ?_) ?_ ?_
        rotate_left
        ·show Act.put _ (some 105) _ = _
         simp only [Act.put, List.setIfInBounds_toArray, List.set_cons_zero, List.set_cons_succ, i64_w, i32_w]
         rfl
        refine one_ (i := 9) (N := some 106) #[tt_,tt_,tt_,tt_,tt_,tt_,tt_,tt_,tt_,tt_,ff_,ff_] rfl rfl (by kernel_rfl) (by decide) (fun K hK => ?_)
        refine Kd.R_append_step (nat .i64) (w0 := _) w.heap.size (by rfl) (.tmp 98) (.tmp 105) 62 3 (.int .i64 0) 8 rfl Try.underlying62 info3 rfl (by decide) (by decide) (.slice Av ys.length cv) ys nj [.int .i64 ((nj : Nat) : Int)] (fun _ => True) (fun _ => False) rfl rfl ?aP (fun _ hk => hk.elim) (fun _ _ => trivial) (V31.out) (B31.out) ?aS ?aL ?_
        (case aP => exact rfl)
        (case aS => exact below_size B31.out)
        (case aL => exact HYL.out)
        intro v7 w32 hR7 hB7 hg7 hat7
        rw [← HYS.out] at hR7
        obtain ⟨A7, c7, rfl⟩ := Kd.R_slice hR7
        have V32 := Aside0.mk hR7
        have B32 := Aside0.mk hB7
        have R32 := Aside0.mk (blk_grown R31.out hg7 (Kd.R_ne V31.out R31.out (by decide)))
        have G32 := Aside0.mk (blk_grown G31.out hg7 (Kd.R_ne V31.out G31.out (by decide)))
        have F32 := Aside0.mk (blk_grown F31.out hg7 (Kd.R_ne V31.out F31.out (by decide)))
        have T32 : Aside0 (TB w32 gT) := ⟨by obtain ⟨ct, hct⟩ := T31.out.block; exact T31.out.move (hg7.block gT (blk_lt hct) (Kd.R_ne V31.out hct (by decide)))⟩
        have q6 := (blk_cell F32.out 6).trans rfl
        have fr6 := blk_frozen F32.out 6
        clear hR7 hB7 hg7 hat7
        refine hK.out _ _ ((blk_cell F32.out 6).trans rfl) (fun hHeld => ?_)
        clear hK K
        refine norm_ (a' := ?_) ?_ ?_
        rotate_left
        ·show Act.put _ (some 106) _ = _
         simp only [Act.put, List.setIfInBounds_toArray, List.set_cons_zero, List.set_cons_succ, i64_w, i32_w]
         rfl
        refine pure_ (i := 10) (N := some 107) (v := ?_) (a' := ?_) #[tt_,tt_,tt_,tt_,tt_,tt_,tt_,tt_,tt_,tt_,tt_,ff_] rfl rfl (by kernel_rfl) (fun _ _ _ h => h) (Or.inl ⟨by rfl, ?_⟩) ?_ ?_
        rotate_left
        ·intro w'
         go_simp
         with_reducible rfl
        rotate_left
        ·simp only [Act.put, List.setIfInBounds_toArray, List.set_cons_zero, List.set_cons_succ, i64_w, i32_w]
         rfl
        refine last_ (i := 11) (N := none) #[tt_,tt_,tt_,tt_,tt_,tt_,tt_,tt_,tt_,tt_,tt_,tt_] rfl rfl (by kernel_rfl) (by decide) (fun K hK => ?_)
        refine skip_ (w1 := ?_) (by rfl) rfl ?_ ?_
        rotate_left
        ·go_simp
         rfl
        refine hK.out _ _ ?_
        clear hK K
        refine done_ (by kernel_rfl) ?_
        obtain ⟨w33, hw33⟩ : ∃ w33, w33 = w32.setCell ⟨gf, 6, none⟩ (.slice A7 ys'.length c7) := ⟨_, rfl⟩
        rw [← hw33]
        have st33 : ∀ k, k ≠ gf → w33.heap[k]? = w32.heap[k]? := by rw [hw33]; exact fun k hk => Below.heap_setCell _ _ _ k hk
        have HLN : Aside0 (w33.heap[gR]? = some (.cells #[.int .i64 0, .int .i64 0, .int .i64 0, .int .i64 0, .int .i64 0, .pointer none, .slice none 0 0, .slice none 0 0, .int .i64 0] 121 (0, 0)) ∧ w33.heap[gr]? = some (.cells #[.slice (some ad) b.length cap, .int .i64 (at2 : Int)] 119 (0, 0)) ∧ w33.heap[gf]? = some (.cells #[.int .i64 (sp : Int), .int .i64 (pl : Int), .int .i64 (W : Int), .int .i64 (H : Int), .int .i64 (S : Int), .pointer (some ⟨gT, 0, none⟩), .slice A7 ys'.length c7, .slice none 0 0, .int .i64 0] 121 (0, 0)) ∧ TB w33 gT ∧ Below w.heap.size w w33 ∧ (nat .i64).R 3 w33 w.heap.size (fun _ => True) (.slice A7 ys'.length c7) ys') := ⟨(st33 gR NRF.out).trans R32.out, (st33 gr (blk_ne G32.out F32.out (by decide))).trans G32.out, by rw [hw33]; exact (blk_set F32.out 6 _).trans rfl, by obtain ⟨ct, hct⟩ := T32.out.block; exact T32.out.move (st33 gT (blk_ne hct F32.out (by decide))), by rw [hw33]; exact B32.out.setCell (p := ⟨gf, 6, none⟩) GF.out _, Kd.R_mono (Kd.R_move (Kd.R_types V32.out F32.out (by decide)) (fun k hk => st33 k hk.2)) (fun _ _ => trivial)⟩
        clear hw33 st33 q6 fr6
        go_wp2
        go_roundw
        case measure => simp [intOf]; exact HMM.out
        case rel => exact ⟨m, j + 1, A7, c7, ys', HJK.out, by go_num, HMN, HYN, HLN⟩
       ·have hi4 := HI4.out
        have hnk := HNK.out
        obtain rfl : j = K := by omega
        obtain rfl : i4 = N := by omega
        have c1 : decide ((i4 : Int) < (i4 : Int)) = false := decide_eq_false (by omega)
        clear hi4 hnk hjl hj
        obtain ⟨hR, hG, hF, hTb, hB, hV⟩ := HLI.out
        have u0 := (blk_cell hG 0).trans rfl
        have u1 := (blk_cell hG 1).trans rfl
        have v7 := (blk_cell hF 7).trans rfl
        have v8 := (blk_cell hF 8).trans rfl
        have fv7 := blk_frozen hF 7
        have fv8 := blk_frozen hF 8
        have FX : Aside0 (((wr.setCell ⟨gf, 7, none⟩ (.slice (some ad) b.length cap)).setCell ⟨gf, 8, none⟩ (.int .i64 (at2 : Int))).heap[gf]? = some (.cells #[.int .i64 (sp : Int), .int .i64 (pl : Int), .int .i64 (W : Int), .int .i64 (H : Int), .int .i64 (S : Int), .pointer (some ⟨gT, 0, none⟩), .slice Av ys.length cv, .slice (some ad) b.length cap, .int .i64 (at2 : Int)] 121 (0, 0))) := ⟨(blk_set ((blk_set hF 7 _).trans rfl) 8 _).trans rfl⟩
        have RX : Aside0 (((wr.setCell ⟨gf, 7, none⟩ (.slice (some ad) b.length cap)).setCell ⟨gf, 8, none⟩ (.int .i64 (at2 : Int))).heap[gR]? = some (.cells #[.int .i64 0, .int .i64 0, .int .i64 0, .int .i64 0, .int .i64 0, .pointer none, .slice none 0 0, .slice none 0 0, .int .i64 0] 121 (0, 0))) := ⟨(Below.heap_setCell _ _ _ gR NRF.out).trans ((Below.heap_setCell _ _ _ gR NRF.out).trans hR)⟩
        have BX : Aside0 (Below w.heap.size w ((wr.setCell ⟨gf, 7, none⟩ (.slice (some ad) b.length cap)).setCell ⟨gf, 8, none⟩ (.int .i64 (at2 : Int)))) := ⟨(hB.setCell (p := ⟨gf, 7, none⟩) GF.out _).setCell (p := ⟨gf, 8, none⟩) GF.out _⟩
        have TX : Aside0 (TB ((wr.setCell ⟨gf, 7, none⟩ (.slice (some ad) b.length cap)).setCell ⟨gf, 8, none⟩ (.int .i64 (at2 : Int))) gT) := ⟨by obtain ⟨ct, hct⟩ := hTb.block; exact hTb.move ((Below.heap_setCell _ _ _ gT (blk_ne hct hF (by decide))).trans (Below.heap_setCell _ _ _ gT (blk_ne hct hF (by decide))))⟩
        have VX : Aside0 ((nat .i64).R 3 ((wr.setCell ⟨gf, 7, none⟩ (.slice (some ad) b.length cap)).setCell ⟨gf, 8, none⟩ (.int .i64 (at2 : Int))) w.heap.size (fun _ => True) (.slice Av ys.length cv) ys) := ⟨Kd.R_mono (Kd.R_move (Kd.R_types hV hF (by decide)) (fun k hk => (Below.heap_setCell _ _ _ k hk.2).trans (Below.heap_setCell _ _ _ k hk.2))) (fun _ _ => trivial)⟩
        have y0 := (blk_cell FX.out 0).trans rfl
        have y1 := (blk_cell FX.out 1).trans rfl
        have y2 := (blk_cell FX.out 2).trans rfl
        have y3 := (blk_cell FX.out 3).trans rfl
        have y4 := (blk_cell FX.out 4).trans rfl
        have y5 := (blk_cell FX.out 5).trans rfl
        have y6 := (blk_cell FX.out 6).trans rfl
        have y7 := (blk_cell FX.out 7).trans rfl
        have y8 := (blk_cell FX.out 8).trans rfl
        have o0 := (blk_cell RX.out 0).trans rfl
        have o1 := (blk_cell RX.out 1).trans rfl
        have o2 := (blk_cell RX.out 2).trans rfl
        have o3 := (blk_cell RX.out 3).trans rfl
        have o4 := (blk_cell RX.out 4).trans rfl
        have o5 := (blk_cell RX.out 5).trans rfl
        have o6 := (blk_cell RX.out 6).trans rfl
        have o7 := (blk_cell RX.out 7).trans rfl
        have o8 := (blk_cell RX.out 8).trans rfl
        have fo0 := blk_frozen RX.out 0
        have fo1 := blk_frozen RX.out 1
        have fo2 := blk_frozen RX.out 2
        have fo3 := blk_frozen RX.out 3
        have fo4 := blk_frozen RX.out 4
        have fo5 := blk_frozen RX.out 5
        have fo6 := blk_frozen RX.out 6
        have fo7 := blk_frozen RX.out 7
        have fo8 := blk_frozen RX.out 8
        clear hR hG hF hTb hB hV HLI
        go_wp2
        obtain ⟨wx, hwx⟩ : ∃ wx, wx = ((wr.setCell ⟨gf, 7, none⟩ (.slice (some ad) b.length cap)).setCell ⟨gf, 8, none⟩ (.int .i64 (at2 : Int))) := ⟨_, rfl⟩
        rw [← hwx] at FX RX BX TX VX ⊢
        obtain ⟨wz, hwz⟩ : ∃ wz, wz = (((((((((wx.setCell ⟨gR, 0, none⟩ (.int .i64 (sp : Int))).setCell ⟨gR, 1, none⟩ (.int .i64 (pl : Int))).setCell ⟨gR, 2, none⟩ (.int .i64 (W : Int))).setCell ⟨gR, 3, none⟩ (.int .i64 (H : Int))).setCell ⟨gR, 4, none⟩ (.int .i64 (S : Int))).setCell ⟨gR, 5, none⟩ (.pointer (some ⟨gT, 0, none⟩))).setCell ⟨gR, 6, none⟩ (.slice Av ys.length cv)).setCell ⟨gR, 7, none⟩ (.slice (some ad) b.length cap)).setCell ⟨gR, 8, none⟩ (.int .i64 (at2 : Int))) := ⟨_, rfl⟩
        rw [← hwz]
        obtain ⟨hGz, hstz, hblz⟩ := put9 RX.out hwz
        refine bodyPost_ret (results_ct rfl _ _ gR 121 #[.int .i64 (sp : Int), .int .i64 (pl : Int), .int .i64 (W : Int), .int .i64 (H : Int), .int .i64 (S : Int), .pointer (some ⟨gT, 0, none⟩), .slice Av ys.length cv, .slice (some ad) b.length cap, .int .i64 (at2 : Int)] (0, 0) _ rfl hGz Try.underlying121 rfl (by kernel_rfl)) rfl ?_
        refine ⟨BX.out.trans (hblz _ GR.out), .inr ⟨HE.out, gT, .slice Av ys.length cv, ?_, GT.out, ?_, ?_⟩⟩
        ·rw [HNB.out, ← HAT5.out]; rfl
        ·obtain ⟨ct, hct⟩ := TX.out.block; exact TX.out.move (hstz gT (blk_ne hct RX.out (by decide)))
        ·rw [HKK.out, ← HY.out]; exact Kd.R_mono (Kd.R_move (Kd.R_types VX.out RX.out (by decide)) (fun k hk => hstz k hk.2)) (fun _ _ => trivial)
     ·have tsc : ((s4 : Int) != (cr : Int)) = true := by rw [bne_iff_ne]; omega
      have tsc2 : (s4 != cr) = true := by rw [bne_iff_ne]; exact hsc
      have HE : Aside0 (openE b = 183) := ⟨by unfold openE; rw [if_neg (by have := HL3.out; omega), if_neg (by have := HL.out; omega), if_neg (by rw [HMV.out, HMG.out]; simp), HNB.out, if_neg (by have := HNL.out; omega), if_neg HNN2.out, ← HA1.out, ← HS4.out, ← HCR.out, if_pos hsc]⟩
      clear hsc hcr2
      have wcr := wrapI (rfl : (cr : Int) = (cr : Int)) hcr3
      clear hcr3
      refine start_ (n := 10) (S := fun w' => w'.cell? ⟨gf, 5, none⟩ = some (.pointer (some ⟨gT, 0, none⟩))) (ds := []) #[ff_,ff_,ff_,ff_,ff_,ff_,ff_,ff_,ff_,ff_] (by kernel_rfl) rfl rfl ((blk_cell F21.out 5).trans rfl) (fun hHeld => ?_)
      generalize w20.drew = wd3 at *
      refine pure_ (i := 0) (N := some 80) (v := ?_) (a' := ?_) #[tt_,ff_,ff_,ff_,ff_,ff_,ff_,ff_,ff_,ff_] rfl rfl (by kernel_rfl) (fun _ _ _ h => h) (Or.inl ⟨by rfl, ?_⟩) ?_ ?_
      rotate_left
      ·intro w'
       go_simp
       with_reducible rfl
      rotate_left
      ·simp only [Act.put, List.setIfInBounds_toArray, List.set_cons_zero, List.set_cons_succ, i64_w, i32_w]
       rfl
      refine pure_ (i := 2) (N := some 82) (v := ?_) (a' := ?_) #[tt_,ff_,tt_,ff_,ff_,ff_,ff_,ff_,ff_,ff_] rfl rfl (by kernel_rfl) (fun _ _ _ h => h) (Or.inl ⟨by rfl, ?_⟩) ?_ ?_
      rotate_left
      ·intro w'
       go_simp
       with_reducible rfl
      rotate_left
      ·simp only [Act.put, List.setIfInBounds_toArray, List.set_cons_zero, List.set_cons_succ, i64_w, i32_w]
       rfl
      refine pure_ (i := 4) (N := some 84) (v := ?_) (a' := ?_) #[tt_,ff_,tt_,ff_,tt_,ff_,ff_,ff_,ff_,ff_] rfl rfl (by kernel_rfl) (fun _ _ _ h => h) (Or.inl ⟨by rfl, ?_⟩) ?_ ?_
      rotate_left
      ·intro w'
       go_simp
       with_reducible rfl
      rotate_left
      ·simp only [Act.put, List.setIfInBounds_toArray, List.set_cons_zero, List.set_cons_succ, i64_w, i32_w]
       rfl
      refine pure_ (i := 5) (N := some 85) (v := ?_) (a' := ?_) #[tt_,ff_,tt_,ff_,tt_,tt_,ff_,ff_,ff_,ff_] rfl rfl (by kernel_rfl) (fun _ _ _ h => h) (Or.inl ⟨by rfl, ?_⟩) ?_ ?_
      rotate_left
      ·intro w'
       go_simp
       with_reducible rfl
      rotate_left
      ·simp only [Act.put, List.setIfInBounds_toArray, List.set_cons_zero, List.set_cons_succ, i64_w, i32_w]
       rfl
      refine pure_ (i := 6) (N := some 86) (v := ?_) (a' := ?_) #[tt_,ff_,tt_,ff_,tt_,tt_,tt_,ff_,ff_,ff_] rfl rfl (by kernel_rfl) (fun _ _ _ h => h) (Or.inl ⟨by rfl, ?_⟩) ?_ ?_
      rotate_left
      ·intro w'
       go_simp
       with_reducible rfl
      rotate_left
      ·simp only [Act.put, List.setIfInBounds_toArray, List.set_cons_zero, List.set_cons_succ, i64_w, i32_w]
       rfl
      refine take_ (i := 3) (N := some 83) (v := ?_) (a' := ?_) #[tt_,ff_,tt_,tt_,tt_,tt_,tt_,ff_,ff_,ff_] rfl rfl (by kernel_rfl) (fun _ _ _ h => h) (Or.inl ⟨by rfl, ?_⟩) hHeld ?_ ?_
      rotate_left
      ·intro w' s0
       go_simp
       with_reducible rfl
      rotate_left
      ·simp only [Act.put, List.setIfInBounds_toArray, List.set_cons_zero, List.set_cons_succ, i64_w, i32_w]
       rfl
      refine one_ (i := 1) (N := some 81) #[tt_,tt_,tt_,tt_,tt_,tt_,tt_,ff_,ff_,ff_] rfl rfl (by kernel_rfl) (by decide) (fun K hK => ?_)
      refine goes_ Try.func94 (by kernel_rfl) rfl #[.slice A3 4 4] (by rfl) rfl rfl (by (try simp only [List.map_toArray, List.map_cons, List.map_nil]); rfl) ?_
      refine (number4 HL4.out (Kd.C_below C20.out B21.out) (Nat.le_refl 4) HS8.out).mono ?_
      rw [← HS4.out]
      rintro e w22 ⟨rfl, hb⟩
      refine ⟨_, rfl, ?_⟩
      have R22 := Aside0.mk (blk_below R21.out hb)
      have G22 := Aside0.mk (blk_below G21.out hb)
      have T22 := Aside0.mk (T21.out.below hb)
      have F22 := Aside0.mk (blk_below F21.out hb)
      have B22 := Aside0.mk (below_step B21.out hb)
      clear hb
      refine hK.out _ _ ((blk_cell F22.out 5).trans rfl) (fun hHeld => ?_)
      clear hK K
      refine norm_ (a' := ?_) ?_ ?_
      rotate_left
      ·show Act.put _ (some 81) _ = _
       simp only [Act.put, List.setIfInBounds_toArray, List.set_cons_zero, List.set_cons_succ, i64_w, i32_w]
       rfl
      refine one_ (i := 7) (N := some 87) #[tt_,tt_,tt_,tt_,tt_,tt_,tt_,tt_,ff_,ff_] rfl rfl (by kernel_rfl) (by decide) (fun K hK => ?_)
      refine goes_ Try.func46 (by kernel_rfl) rfl #[.pointer (some ⟨gT, 0, none⟩), .slice (some ad) at1 cap] (by rfl) rfl rfl (by (try simp only [List.map_toArray, List.map_cons, List.map_nil]); rfl) ?_
      refine (sum_at T22.out (Kd.C_below HC.out B22.out) HAT.out HCAP.out H8.out HL60.out).mono ?_
      rw [← HCR.out]
      rintro e w23 ⟨rfl, hb⟩
      refine ⟨_, rfl, ?_⟩
      have R23 := Aside0.mk (blk_below R22.out hb)
      have G23 := Aside0.mk (blk_below G22.out hb)
      have T23 := Aside0.mk (T22.out.below hb)
      have F23 := Aside0.mk (blk_below F22.out hb)
      have B23 := Aside0.mk (below_step B22.out hb)
      clear hb
      refine hK.out _ _ ((blk_cell F23.out 5).trans rfl) (fun hHeld => ?_)
      clear hK K
      refine norm_ (a' := ?_) ?_ ?_
      rotate_left
      ·show Act.put _ (some 87) _ = _
       simp only [Act.put, List.setIfInBounds_toArray, List.set_cons_zero, List.set_cons_succ, i64_w, i32_w]
       rfl
      refine pure_ (i := 8) (N := some 88) (v := ?_) (a' := ?_) #[tt_,tt_,tt_,tt_,tt_,tt_,tt_,tt_,tt_,ff_] rfl rfl (by kernel_rfl) (fun _ _ _ h => h) (Or.inl ⟨by rfl, ?_⟩) ?_ ?_
      rotate_left
      ·intro w'
       go_simp
       with_reducible rfl
      rotate_left
      ·simp only [Act.put, List.setIfInBounds_toArray, List.set_cons_zero, List.set_cons_succ, i64_w, i32_w]
       rfl
      refine pure_ (i := 9) (N := some 89) (v := ?_) (a' := ?_) #[tt_,tt_,tt_,tt_,tt_,tt_,tt_,tt_,tt_,tt_] rfl rfl (by kernel_rfl) (fun _ _ _ h => h) (Or.inl ⟨by rfl, ?_⟩) ?_ ?_
      rotate_left
      ·intro w'
       go_simp
       with_reducible rfl
      rotate_left
      ·simp only [Act.put, List.setIfInBounds_toArray, List.set_cons_zero, List.set_cons_succ, i64_w, i32_w]
       rfl
      refine done_ (by kernel_rfl) ?_
      have o0 := (blk_cell R23.out 0).trans rfl
      have o1 := (blk_cell R23.out 1).trans rfl
      have o2 := (blk_cell R23.out 2).trans rfl
      have o3 := (blk_cell R23.out 3).trans rfl
      have o4 := (blk_cell R23.out 4).trans rfl
      have o5 := (blk_cell R23.out 5).trans rfl
      have o6 := (blk_cell R23.out 6).trans rfl
      have o7 := (blk_cell R23.out 7).trans rfl
      have o8 := (blk_cell R23.out 8).trans rfl
      have fo0 := blk_frozen R23.out 0
      have fo1 := blk_frozen R23.out 1
      have fo2 := blk_frozen R23.out 2
      have fo3 := blk_frozen R23.out 3
      have fo4 := blk_frozen R23.out 4
      have fo5 := blk_frozen R23.out 5
      have fo6 := blk_frozen R23.out 6
      have fo7 := blk_frozen R23.out 7
      have fo8 := blk_frozen R23.out 8
      go_wp2
      obtain ⟨wz, hwz⟩ : ∃ wz, wz = (((((((((w23.setCell ⟨gR, 0, none⟩ (.int .i64 0)).setCell ⟨gR, 1, none⟩ (.int .i64 0)).setCell ⟨gR, 2, none⟩ (.int .i64 0)).setCell ⟨gR, 3, none⟩ (.int .i64 0)).setCell ⟨gR, 4, none⟩ (.int .i64 0)).setCell ⟨gR, 5, none⟩ (.pointer none)).setCell ⟨gR, 6, none⟩ (.slice none 0 0)).setCell ⟨gR, 7, none⟩ (.slice none 0 0)).setCell ⟨gR, 8, none⟩ (.int .i64 0)) := ⟨_, rfl⟩
      rw [← hwz]
      obtain ⟨hGz, hstz, hblz⟩ := put9 R23.out hwz
      refine bodyPost_ret (results_ct rfl _ _ gR 121 #[.int .i64 0, .int .i64 0, .int .i64 0, .int .i64 0, .int .i64 0, .pointer none, .slice none 0 0, .slice none 0 0, .int .i64 0] (0, 0) _ rfl hGz Try.underlying121 rfl (by kernel_rfl)) rfl ?_
      exact ⟨B23.out.trans (hblz _ GR.out), .inl ⟨by rw [HE.out]; decide, by rw [HE.out]; rfl⟩⟩
 ·have HMG : Aside0 (hMagic b = false) := ⟨by
   rw [HM.out]
   by_cases x0 : m0 = 72 <;> by_cases x1 : m1 = 76 <;> by_cases x2 : m2 = 68 <;> by_cases x3 : m3 = 49 <;> simp_all⟩
  have tm : ((m0 : Int) == 72 && (m1 : Int) == 76 && (m2 : Int) == 68 && (m3 : Int) == 49) = false := by
   by_cases x0 : m0 = 72 <;> by_cases x1 : m1 = 76 <;> by_cases x2 : m2 = 68 <;> by_cases x3 : m3 = 49 <;> first | (exfalso; exact hmg ⟨x0, x1, x2, x3⟩) | (simp; omega)
  have heq2 : ∀ w, (Op.equalIn 10000 106 (.agg #[.int .u8 (m0 : Int), .int .u8 (m1 : Int), .int .u8 (m2 : Int), .int .u8 (m3 : Int)]) (.agg #[.int .u8 72, .int .u8 76, .int .u8 68, .int .u8 49])).run Try.prog w = .ok false w := fun w => by rw [eq106, tm]
  clear heq tm hmg
  have HE : Aside0 (openE b = 181) := ⟨by unfold openE; rw [if_neg (by have := HL3.out; omega), if_neg (by have := HL.out; omega), if_pos (by rw [HMG.out]; simp)]⟩
  refine start_ (n := 13) (S := fun w' => w'.cell? ⟨gh, 0, none⟩ = some (.slice (some ad1) 12 12) ∧ w'.cell? ad1 = some (.int .u8 (m0 : Int)) ∧ w'.cell? ⟨ad1.block, ad1.off + 1, none⟩ = some (.int .u8 (m1 : Int)) ∧ w'.cell? ⟨ad1.block, ad1.off + 2, none⟩ = some (.int .u8 (m2 : Int)) ∧ w'.cell? ⟨ad1.block, ad1.off + 3, none⟩ = some (.int .u8 (m3 : Int)) ∧ w'.cell? ⟨gf, 0, none⟩ = some (.int .i64 (sp : Int)) ∧ w'.cell? ⟨gf, 1, none⟩ = some (.int .i64 (pl : Int)) ∧ w'.cell? ⟨gf, 2, none⟩ = some (.int .i64 (W : Int)) ∧ w'.cell? ⟨gf, 3, none⟩ = some (.int .i64 (H : Int)) ∧ w'.cell? ⟨gf, 4, none⟩ = some (.int .i64 (S : Int))) (ds := []) #[ff_,ff_,ff_,ff_,ff_,ff_,ff_,ff_,ff_,ff_,ff_,ff_,ff_] (by kernel_rfl) rfl rfl ⟨(cell_new1 H14.out), ((B14.out.cell (World.block_lt_of_cell? w _ Y0.out)).trans Y0.out), ((B14.out.cell (World.block_lt_of_cell? w _ Y1.out)).trans Y1.out), ((B14.out.cell (World.block_lt_of_cell? w _ Y2.out)).trans Y2.out), ((B14.out.cell (World.block_lt_of_cell? w _ Y3.out)).trans Y3.out), (blk_cell F14.out 0).trans rfl, (blk_cell F14.out 1).trans rfl, (blk_cell F14.out 2).trans rfl, (blk_cell F14.out 3).trans rfl, (blk_cell F14.out 4).trans rfl⟩ (fun hHeld => ?_)
  generalize w13.drew = wd at *
  refine take_ (i := 0) (N := some 41) (v := ?_) (a' := ?_) #[tt_,ff_,ff_,ff_,ff_,ff_,ff_,ff_,ff_,ff_,ff_,ff_,ff_] rfl rfl (by kernel_rfl) (fun _ _ _ h => h) (Or.inl ⟨by rfl, ?_⟩) hHeld ?_ ?_
  rotate_left
  ·rintro w' ⟨s0, s1, s2, s3, s4, s5, s6, s7, s8, s9⟩
   go_simp
   with_reducible rfl
  rotate_left
  ·simp only [Act.put, List.setIfInBounds_toArray, List.set_cons_zero, List.set_cons_succ, i64_w, i32_w]
   rfl
  refine pure_ (i := 1) (N := some 42) (v := ?_) (a' := ?_) #[tt_,tt_,ff_,ff_,ff_,ff_,ff_,ff_,ff_,ff_,ff_,ff_,ff_] rfl rfl (by kernel_rfl) (fun _ _ _ h => h) (Or.inl ⟨by rfl, ?_⟩) ?_ ?_
  rotate_left
  ·intro w'
   go_simp
   with_reducible rfl
  rotate_left
  ·simp only [Act.put, List.setIfInBounds_toArray, List.set_cons_zero, List.set_cons_succ, i64_w, i32_w]
   rfl
  refine pure_ (i := 2) (N := some 43) (v := ?_) (a' := ?_) #[tt_,tt_,tt_,ff_,ff_,ff_,ff_,ff_,ff_,ff_,ff_,ff_,ff_] rfl rfl (by kernel_rfl) (fun _ _ _ h => h) (Or.inl ⟨by rfl, ?_⟩) ?_ ?_
  rotate_left
  ·intro w'
   go_simp
   with_reducible rfl
  rotate_left
  ·simp only [Act.put, List.setIfInBounds_toArray, List.set_cons_zero, List.set_cons_succ, i64_w, i32_w]
   rfl
  refine take_ (i := 3) (N := some 44) (v := ?_) (a' := ?_) #[tt_,tt_,tt_,tt_,ff_,ff_,ff_,ff_,ff_,ff_,ff_,ff_,ff_] rfl rfl (by kernel_rfl) (fun _ _ _ h => h) (Or.inl ⟨by rfl, ?_⟩) hHeld ?_ ?_
  rotate_left
  ·rintro w' ⟨s0, s1, s2, s3, s4, s5, s6, s7, s8, s9⟩
   go_simp
   with_reducible rfl
  rotate_left
  ·simp only [Act.put, List.setIfInBounds_toArray, List.set_cons_zero, List.set_cons_succ, i64_w, i32_w]
   rfl
  refine one_ (i := 4) (N := some 45) #[tt_,tt_,tt_,tt_,tt_,ff_,ff_,ff_,ff_,ff_,ff_,ff_,ff_] rfl rfl (by kernel_rfl) (by decide) (fun K hK => ?_)
  refine goes_ Try.func64 (by kernel_rfl) rfl #[] (by rfl) rfl rfl (by first | rfl | (simp only [List.map_toArray, List.map_cons, List.map_nil]; done) | (simp only [List.map_toArray, List.map_cons, List.map_nil]; rfl)) ?_
  with_reducible refine (magic_calls _).mono ?_
  rintro e w15 ⟨rfl, hb⟩
  refine ⟨_, rfl, ?_⟩
  have R15 := Aside0.mk (blk_below R14.out hb)
  have G15 := Aside0.mk (blk_below G14.out hb)
  have H15 := Aside0.mk (blk_below H14.out hb)
  have T15 := Aside0.mk (T14.out.below hb)
  have F15 := Aside0.mk (blk_below F14.out hb)
  have B15 := Aside0.mk (below_step B14.out hb)
  clear hb
  refine hK.out _ _ ⟨(cell_new1 H15.out), ((B15.out.cell (World.block_lt_of_cell? w _ Y0.out)).trans Y0.out), ((B15.out.cell (World.block_lt_of_cell? w _ Y1.out)).trans Y1.out), ((B15.out.cell (World.block_lt_of_cell? w _ Y2.out)).trans Y2.out), ((B15.out.cell (World.block_lt_of_cell? w _ Y3.out)).trans Y3.out), (blk_cell F15.out 0).trans rfl, (blk_cell F15.out 1).trans rfl, (blk_cell F15.out 2).trans rfl, (blk_cell F15.out 3).trans rfl, (blk_cell F15.out 4).trans rfl⟩ (fun hHeld => ?_)
  clear hK K
  refine norm_ (a' := ?_) ?_ ?_
  rotate_left
  ·show Act.put _ (some 45) _ = _
   simp only [Act.put, List.setIfInBounds_toArray, List.set_cons_zero, List.set_cons_succ, i64_w, i32_w]
   rfl
  refine pure_ (i := 5) (N := some 46) (v := ?_) (a' := ?_) #[tt_,tt_,tt_,tt_,tt_,tt_,ff_,ff_,ff_,ff_,ff_,ff_,ff_] rfl rfl (by kernel_rfl) (fun _ _ _ h => h) (Or.inl ⟨by rfl, ?_⟩) ?_ ?_
  rotate_left
  ·intro w'
   go_simp
   with_reducible rfl
  rotate_left
  ·simp only [Act.put, List.setIfInBounds_toArray, List.set_cons_zero, List.set_cons_succ, i64_w, i32_w]
   rfl
  refine pure_ (i := 6) (N := some 47) (v := ?_) (a' := ?_) #[tt_,tt_,tt_,tt_,tt_,tt_,tt_,ff_,ff_,ff_,ff_,ff_,ff_] rfl rfl (by kernel_rfl) (fun _ _ _ h => h) (Or.inl ⟨by rfl, ?_⟩) ?_ ?_
  rotate_left
  ·intro w'
   go_simp
   with_reducible rfl
  rotate_left
  ·simp only [Act.put, List.setIfInBounds_toArray, List.set_cons_zero, List.set_cons_succ, i64_w, i32_w]
   rfl
  refine pure_ (i := 7) (N := some 48) (v := undef) (a' := ?_) #[tt_,tt_,tt_,tt_,tt_,tt_,tt_,tt_,ff_,ff_,ff_,ff_,ff_] rfl rfl (by kernel_rfl) (fun _ _ _ h => h) (Or.inr ⟨by rfl, rfl⟩) ?_ ?_
  rotate_left
  ·simp only [Act.put, List.setIfInBounds_toArray, List.set_cons_zero, List.set_cons_succ, i64_w, i32_w]
   rfl
  refine pure_ (i := 8) (N := some 49) (v := undef) (a' := ?_) #[tt_,tt_,tt_,tt_,tt_,tt_,tt_,tt_,tt_,ff_,ff_,ff_,ff_] rfl rfl (by kernel_rfl) (fun _ _ _ h => h) (Or.inr ⟨by rfl, rfl⟩) ?_ ?_
  rotate_left
  ·simp only [Act.put, List.setIfInBounds_toArray, List.set_cons_zero, List.set_cons_succ, i64_w, i32_w]
   rfl
  refine pure_ (i := 9) (N := some 50) (v := undef) (a' := ?_) #[tt_,tt_,tt_,tt_,tt_,tt_,tt_,tt_,tt_,tt_,ff_,ff_,ff_] rfl rfl (by kernel_rfl) (fun _ _ _ h => h) (Or.inr ⟨by rfl, rfl⟩) ?_ ?_
  rotate_left
  ·simp only [Act.put, List.setIfInBounds_toArray, List.set_cons_zero, List.set_cons_succ, i64_w, i32_w]
   rfl
  refine pure_ (i := 10) (N := some 51) (v := undef) (a' := ?_) #[tt_,tt_,tt_,tt_,tt_,tt_,tt_,tt_,tt_,tt_,tt_,ff_,ff_] rfl rfl (by kernel_rfl) (fun _ _ _ h => h) (Or.inr ⟨by rfl, rfl⟩) ?_ ?_
  rotate_left
  ·simp only [Act.put, List.setIfInBounds_toArray, List.set_cons_zero, List.set_cons_succ, i64_w, i32_w]
   rfl
  refine pure_ (i := 11) (N := some 52) (v := undef) (a' := ?_) #[tt_,tt_,tt_,tt_,tt_,tt_,tt_,tt_,tt_,tt_,tt_,tt_,ff_] rfl rfl (by kernel_rfl) (fun _ _ _ h => h) (Or.inr ⟨by rfl, rfl⟩) ?_ ?_
  rotate_left
  ·simp only [Act.put, List.setIfInBounds_toArray, List.set_cons_zero, List.set_cons_succ, i64_w, i32_w]
   rfl
  refine pure_ (i := 12) (N := some 53) (v := ?_) (a' := ?_) #[tt_,tt_,tt_,tt_,tt_,tt_,tt_,tt_,tt_,tt_,tt_,tt_,tt_] rfl rfl (by kernel_rfl) (fun _ _ _ h => h) (Or.inl ⟨by rfl, ?_⟩) ?_ ?_
  rotate_left
  ·intro w'
   go_simp
   with_reducible rfl
  rotate_left
  ·simp only [Act.put, List.setIfInBounds_toArray, List.set_cons_zero, List.set_cons_succ, i64_w, i32_w]
   rfl
  refine done_ (by kernel_rfl) ?_
  have o0 := (blk_cell R15.out 0).trans rfl
  have o1 := (blk_cell R15.out 1).trans rfl
  have o2 := (blk_cell R15.out 2).trans rfl
  have o3 := (blk_cell R15.out 3).trans rfl
  have o4 := (blk_cell R15.out 4).trans rfl
  have o5 := (blk_cell R15.out 5).trans rfl
  have o6 := (blk_cell R15.out 6).trans rfl
  have o7 := (blk_cell R15.out 7).trans rfl
  have o8 := (blk_cell R15.out 8).trans rfl
  have fo0 := blk_frozen R15.out 0
  have fo1 := blk_frozen R15.out 1
  have fo2 := blk_frozen R15.out 2
  have fo3 := blk_frozen R15.out 3
  have fo4 := blk_frozen R15.out 4
  have fo5 := blk_frozen R15.out 5
  have fo6 := blk_frozen R15.out 6
  have fo7 := blk_frozen R15.out 7
  have fo8 := blk_frozen R15.out 8
  go_wp2
  obtain ⟨wz, hwz⟩ : ∃ wz, wz = (((((((((w15.setCell ⟨gR, 0, none⟩ (.int .i64 0)).setCell ⟨gR, 1, none⟩ (.int .i64 0)).setCell ⟨gR, 2, none⟩ (.int .i64 0)).setCell ⟨gR, 3, none⟩ (.int .i64 0)).setCell ⟨gR, 4, none⟩ (.int .i64 0)).setCell ⟨gR, 5, none⟩ (.pointer none)).setCell ⟨gR, 6, none⟩ (.slice none 0 0)).setCell ⟨gR, 7, none⟩ (.slice none 0 0)).setCell ⟨gR, 8, none⟩ (.int .i64 0)) := ⟨_, rfl⟩
  rw [← hwz]
  obtain ⟨hGz, hstz, hblz⟩ := put9 R15.out hwz
  refine bodyPost_ret (results_ct rfl _ _ gR 121 #[.int .i64 0, .int .i64 0, .int .i64 0, .int .i64 0, .int .i64 0, .pointer none, .slice none 0 0, .slice none 0 0, .int .i64 0] (0, 0) _ rfl hGz Try.underlying121 rfl (by kernel_rfl)) rfl ?_
  exact ⟨B15.out.trans (hblz _ GR.out), .inl ⟨by rw [HE.out]; decide, by rw [HE.out]; rfl⟩⟩

end Go.Proofs.Ytbbebhdcfopmmaa.A
end
section
set_option linter.unusedVariables false
set_option linter.unusedSimpArgs false
namespace Go.Proofs.Ytbbebhdcfopmmaa.A
open Go.RowKit Go.Proofs.YtbbebhdcfopmmaaW.PrintWords Go.Proofs.YtbbebhdcfopmmaaW.PrintLast Go.Proofs.YtbbebhdcfopmmaaW.PrintMore Go.Proofs.Ytbbebhdcfopmmaa.PCodecNames

theorem drawn_below {w w' : World} (h : Drawn0 w w') : Below w.heap.size w w' := by
 obtain ⟨n, rfl⟩ := h
 exact pw_below_drewN (Below.refl _ _) n
theorem firstErr_drop {l : List S31} {i : Nat} (hi : i < l.length) : firstErr (l.drop i) = if checkE (rd_T31 l (i : Int)).f0 (rd_T31 l (i : Int)).f1 (rd_T31 l (i : Int)).f2.length = 0 then firstErr (l.drop (i + 1)) else checkE (rd_T31 l (i : Int)).f0 (rd_T31 l (i : Int)).f1 (rd_T31 l (i : Int)).f2.length := by
 rw [rdT_drop hi]; rfl
theorem sameSize_drop {l : List S31} {i : Nat} (a : S31) (hi : i < l.length) : sameSize a (l.drop i) = (decide ((rd_T31 l (i : Int)).f0 = a.f0) && decide ((rd_T31 l (i : Int)).f1 = a.f1) && sameSize a (l.drop (i + 1))) := by
 rw [rdT_drop hi]; rfl

set_option maxHeartbeats 8000000 in
set_option maxRecDepth 100000 in
theorem picture_chk (sp : Int) (A : Option Addr) (cap n : Nat) (l : List S31) (w : World) (hn : l.length = n) (hC : Kd.C k31 w A n l) (hcap : n ≤ cap) (hl : n < 4611686018427387904) (hc : ∀ i : Nat, i < n → (rd_T31 l (i : Int)).f2.length < 4611686018427387904) :
    Calls Try.prog 63 #[.agg #[.int .i64 sp, .slice A n cap]] w fun e w' => e = .returned (.int .i64 ((picE sp l : Nat) : Int)) ∧ Below w.heap.size w w' := by
 have hu47 := Try.underlying47
 have hu31 := Try.underlying31
 obtain ⟨z, hz⟩ : ∃ z, z = picE sp l := ⟨_, rfl⟩
 have HZ := Aside0.mk hz
 have HN := Aside0.mk hn
 have HC := Aside0.mk hC
 have HCAP := Aside0.mk hcap
 have HLC := Aside0.mk hc
 rw [← hz]
 clear hz hC hcap hc
 by_cases h0 : n = 0
 ·have HZ2 : Aside0 (z = 80) := ⟨by rw [HZ.out]; unfold picE; rw [if_pos (.inl (by omega))]⟩
  have t0 : (n == 0) = true := by rw [beq_iff_eq]; exact h0
  have t0' : ((n : Int) == 0) = true := by rw [beq_iff_eq]; omega
  clear hn h0 hl
  go_enter Try.func63, Try.ntmps63
  go_wp2_with ((with_reducible refine gate_dst (N := 1) rfl ?_); refine box_event ?hg (N := 1) ?hd (cs := #[.int .i64 sp, .slice A n cap]) (t := 47) ?hr ?_; (case hd => rfl); (case hg => rfl); (case hr => first | (go_simp; done) | (go_simp; rfl)); intro gP hg_ w1 hm_ hb_; have P1 := Aside0.mk (hm_); have B1 := Aside0.mk (hb_); have p0 := (blk_cell P1.out 0).trans rfl; have p1 := (blk_cell P1.out 1).trans rfl; clear hm_ hb_ hg_)
  go_ret
  exact ⟨by rw [HZ2.out]; rfl, B1.out⟩
 have t0 : (n == 0) = false := by rw [beq_eq_false_iff_ne]; exact h0
 have t0' : ((n : Int) == 0) = false := by rw [beq_eq_false_iff_ne]; omega
 by_cases h4 : 4 < n
 ·have HZ2 : Aside0 (z = 80) := ⟨by rw [HZ.out]; unfold picE; rw [if_pos (.inr (by omega))]⟩
  have t1 : decide (4 < n) = true := decide_eq_true h4
  have t1' : decide ((4 : Int) < (n : Int)) = true := decide_eq_true (by omega)
  clear h4 hn h0 hl
  go_enter Try.func63, Try.ntmps63
  go_wp2_with ((with_reducible refine gate_dst (N := 1) rfl ?_); refine box_event ?hg (N := 1) ?hd (cs := #[.int .i64 sp, .slice A n cap]) (t := 47) ?hr ?_; (case hd => rfl); (case hg => rfl); (case hr => first | (go_simp; done) | (go_simp; rfl)); intro gP hg_ w1 hm_ hb_; have P1 := Aside0.mk (hm_); have B1 := Aside0.mk (hb_); have p0 := (blk_cell P1.out 0).trans rfl; have p1 := (blk_cell P1.out 1).trans rfl; clear hm_ hb_ hg_)
  go_ret
  exact ⟨by rw [HZ2.out]; rfl, B1.out⟩
 have t1 : decide (4 < n) = false := decide_eq_false h4
 have t1' : decide ((4 : Int) < (n : Int)) = false := decide_eq_false (by omega)
 have HZ1 : Aside0 (z = if firstErr l ≠ 0 then firstErr l else if sameSize (rd_T31 l 0) l = true then spaceE sp n else 80) := ⟨by rw [HZ.out]; unfold picE; rw [if_neg (by omega), hn]⟩
 have HN4 : Aside0 (0 < n ∧ n ≤ 4) := ⟨by omega⟩
 clear h4 h0 hn
 go_enter Try.func63, Try.ntmps63
 go_wp2_with ((with_reducible refine gate_dst (N := 1) rfl ?_); refine box_event ?hg (N := 1) ?hd (cs := #[.int .i64 sp, .slice A n cap]) (t := 47) ?hr ?_; (case hd => rfl); (case hg => rfl); (case hr => first | (go_simp; done) | (go_simp; rfl)); intro gP hg_ w1 hm_ hb_; have P1 := Aside0.mk (hm_); have B1 := Aside0.mk (hb_); have p0 := (blk_cell P1.out 0).trans rfl; have p1 := (blk_cell P1.out 1).trans rfl; clear hm_ hb_ hg_)
 clear t0 t0' t1 t1' p0 p1
 go_loopw [21] (fun v W => ∃ i : Nat, i ≤ n ∧ v = .int .i64 (i : Int) ∧ Aside0 (W.heap[gP]? = some (.cells #[.int .i64 sp, .slice A n cap] 47 (0, 0)) ∧ Below w.heap.size w W ∧ firstErr (l.drop i) = firstErr l)) (fun v _ => n - (intOf v).toNat)
 case atStart => exact ⟨0, Nat.zero_le _, rfl, ⟨P1.out, B1.out, by rw [List.drop_zero]⟩⟩
 case round =>
  clear P1 B1
  obtain ⟨i, hi, rfl, HI⟩ := hrel
  have P2 := Aside0.mk HI.out.1
  have B2 := Aside0.mk HI.out.2.1
  have F2 := Aside0.mk HI.out.2.2
  clear HI
  by_cases hlt : i < n
  ·have c1 : decide ((i : Int) < (n : Int)) = true := decide_eq_true (by omega)
   have c2_ : decide (i < n) = true := decide_eq_true hlt
   have i1 : ((i : Int) < (n : Int)) = True := eq_true (by omega)
   have i2 : (i < n) = True := eq_true hlt
   have HLT := Aside0.mk hlt
   obtain ⟨ad, A2, c2, rfl, x0, x1, x2, hm1, hcz⟩ := at_T31 (Kd.C_below HC.out B2.out) (i : Int) (by omega) (by omega)
   rw [Int.toNat_natCast] at x0 x1 x2
   obtain ⟨aq, haq⟩ : ∃ a, ad.add (i * 3) = a := ⟨_, rfl⟩
   rw [haq] at x0 x1 x2
   obtain ⟨f0, hf0⟩ : ∃ f, (rd_T31 l (i : Int)).f0 = f := ⟨_, rfl⟩
   obtain ⟨f1, hf1⟩ : ∃ f, (rd_T31 l (i : Int)).f1 = f := ⟨_, rfl⟩
   obtain ⟨s, hs⟩ : ∃ f, (rd_T31 l (i : Int)).f2 = f := ⟨_, rfl⟩
   rw [hf0] at x0
   rw [hf1] at x1
   rw [hs] at x2 hm1 hcz
   obtain ⟨m, hm⟩ : ∃ m, s.length = m := ⟨_, rfl⟩
   rw [hm] at x2 hm1 hcz
   have HM2 : Aside0 (m < 4611686018427387904) := ⟨by rw [← hm, ← hs]; exact HLC.out i hlt⟩
   clear hcz hm1
   have p1 := (blk_cell P2.out 1).trans rfl
   obtain ⟨ch, hch⟩ : ∃ ch, ch = checkE f0 f1 m := ⟨_, rfl⟩
   have HCH : Aside0 (checkE f0 f1 m = ch) := ⟨hch.symm⟩
   have HFE : Aside0 (firstErr (l.drop i) = if ch = 0 then firstErr (l.drop (i + 1)) else ch) := ⟨by rw [firstErr_drop (by rw [HN.out]; exact hlt), hf0, hf1, hs, hm, hch]⟩
   clear hch hf0 hf1 hs hm hlt
   by_cases hz0 : ch = 0
   ·have t2 : ((ch : Int) != 0) = false := by rw [bne_eq_false_iff_eq]; omega
    have HF : Aside0 (firstErr (l.drop (i + 1)) = firstErr l) := ⟨by rw [← F2.out, HFE.out, if_pos hz0]⟩
    have t3 : (ch != 0) = false := by rw [bne_eq_false_iff_eq]; exact hz0
    clear hz0
    go_wp2_with (first | ((with_reducible refine gate_dst (N := 4) rfl ?_); refine box_event ?hg (N := 4) ?hd (cs := #[.int .i64 0, .int .i64 0, .slice none 0 0]) (t := 31) ?hr ?_; (case hd => rfl); (case hg => rfl); (case hr => first | (go_simp; done) | (go_simp; rfl)); intro gq hg_ w3 hm_ hb_; have X_ := Aside0.mk (put3 (x := .int .i64 f0) (y := .int .i64 f1) (z := .slice A2 m c2) hm_ rfl); have HB_ := Aside0.mk ((show Below wr.heap.size wr w3 from hb_).trans (X_.out.2.2 _ (by rw [hg_]; exact Nat.le_refl _))); have P4 := Aside0.mk (blk_below P2.out HB_.out); have B4 := Aside0.mk (below_step B2.out HB_.out); have Q4 := Aside0.mk (X_.out.1); have M_ := Aside0.mk hm_; have o0 := (blk_cell M_.out 0).trans rfl; have o1 := (blk_cell M_.out 1).trans rfl; have o2 := (blk_cell M_.out 2).trans rfl; have fo0 := blk_frozen M_.out 0; have fo1 := blk_frozen M_.out 1; have fo2 := blk_frozen M_.out 2; clear hm_ hb_ hg_ X_ HB_ M_) | (go_at_call 52; refine (Check_calls f0 f1 A2 m c2 _ HM2.out).mono ?_; rw [HCH.out]; rintro e w5 ⟨rfl, hb⟩; have P5 := Aside0.mk (blk_below P4.out hb); have B5 := Aside0.mk (below_step B4.out hb); clear hb))
    have hlt := HLT.out
    go_roundw
    case measure => simp [intOf]; omega
    case rel => exact ⟨i + 1, by omega, by go_num, ⟨P5.out, B5.out, HF.out⟩⟩
   ·have t2 : ((ch : Int) != 0) = true := by rw [bne_iff_ne]; omega
    have t3 : (ch != 0) = true := by rw [bne_iff_ne]; exact hz0
    have HZ2 : Aside0 (z = ch) := ⟨by rw [HZ1.out, ← F2.out, HFE.out, if_neg hz0, if_pos hz0]⟩
    clear hz0
    go_wp2_with (first | ((with_reducible refine gate_dst (N := 4) rfl ?_); refine box_event ?hg (N := 4) ?hd (cs := #[.int .i64 0, .int .i64 0, .slice none 0 0]) (t := 31) ?hr ?_; (case hd => rfl); (case hg => rfl); (case hr => first | (go_simp; done) | (go_simp; rfl)); intro gq hg_ w3 hm_ hb_; have X_ := Aside0.mk (put3 (x := .int .i64 f0) (y := .int .i64 f1) (z := .slice A2 m c2) hm_ rfl); have HB_ := Aside0.mk ((show Below wr.heap.size wr w3 from hb_).trans (X_.out.2.2 _ (by rw [hg_]; exact Nat.le_refl _))); have P4 := Aside0.mk (blk_below P2.out HB_.out); have B4 := Aside0.mk (below_step B2.out HB_.out); have Q4 := Aside0.mk (X_.out.1); have M_ := Aside0.mk hm_; have o0 := (blk_cell M_.out 0).trans rfl; have o1 := (blk_cell M_.out 1).trans rfl; have o2 := (blk_cell M_.out 2).trans rfl; have fo0 := blk_frozen M_.out 0; have fo1 := blk_frozen M_.out 1; have fo2 := blk_frozen M_.out 2; clear hm_ hb_ hg_ X_ HB_ M_) | (go_at_call 52; refine (Check_calls f0 f1 A2 m c2 _ HM2.out).mono ?_; rw [HCH.out]; rintro e w5 ⟨rfl, hb⟩; have P5 := Aside0.mk (blk_below P4.out hb); have B5 := Aside0.mk (below_step B4.out hb); clear hb))
    go_ret
    exact ⟨by rw [HZ2.out]; rfl, B5.out⟩
  ·obtain rfl : n = i := by omega
   have c1 : decide ((n : Int) < (n : Int)) = false := decide_eq_false (by omega)
   have HFE : Aside0 (firstErr l = 0) := ⟨by rw [← F2.out, List.drop_of_length_le (by rw [HN.out]; exact Nat.le_refl _)]; rfl⟩
   clear F2 hlt
   have p1 := (blk_cell P2.out 1).trans rfl
   go_wp2
   clear c1 p1
   go_loopw [34] (fun v W => ∃ i : Nat, i ≤ n ∧ v = .int .i64 (i : Int) ∧ Aside0 (W.heap[gP]? = some (.cells #[.int .i64 sp, .slice A n cap] 47 (0, 0)) ∧ Below w.heap.size w W ∧ sameSize (rd_T31 l 0) (l.drop i) = sameSize (rd_T31 l 0) l)) (fun v _ => n - (intOf v).toNat)
   case atStart => exact ⟨0, Nat.zero_le _, rfl, ⟨P2.out, B2.out, by rw [List.drop_zero]⟩⟩
   case round =>
    clear P2 B2
    obtain ⟨i, hi, rfl, HI⟩ := hrel
    have P2 := Aside0.mk HI.out.1
    have B2 := Aside0.mk HI.out.2.1
    have F2 := Aside0.mk HI.out.2.2
    clear HI
    by_cases hlt : i < n
    ·have c1 : decide ((i : Int) < (n : Int)) = true := decide_eq_true (by omega)
     have c2_ : decide (i < n) = true := decide_eq_true hlt
     have i1 : ((i : Int) < (n : Int)) = True := eq_true (by omega)
     have i2 : (i < n) = True := eq_true hlt
     have HLT := Aside0.mk hlt
     obtain ⟨ad, A2, c2, rfl, x0, x1, x2, hm1, hcz⟩ := at_T31 (Kd.C_below HC.out B2.out) (i : Int) (by omega) (by omega)
     rw [Int.toNat_natCast] at x0 x1 x2
     obtain ⟨aq, haq⟩ : ∃ a, ad.add (i * 3) = a := ⟨_, rfl⟩
     rw [haq] at x0 x1 x2
     obtain ⟨f0, hf0⟩ : ∃ f, (rd_T31 l (i : Int)).f0 = f := ⟨_, rfl⟩
     obtain ⟨f1, hf1⟩ : ∃ f, (rd_T31 l (i : Int)).f1 = f := ⟨_, rfl⟩
     obtain ⟨s, hs⟩ : ∃ f, (rd_T31 l (i : Int)).f2 = f := ⟨_, rfl⟩
     rw [hf0] at x0
     rw [hf1] at x1
     rw [hs] at x2 hm1 hcz
     obtain ⟨m, hm⟩ : ∃ m, s.length = m := ⟨_, rfl⟩
     rw [hm] at x2 hm1 hcz
     have HM2 : Aside0 (m < 4611686018427387904) := ⟨by rw [← hm, ← hs]; exact HLC.out i hlt⟩
     clear hcz hm1
     have p1 := (blk_cell P2.out 1).trans rfl
     obtain ⟨ad_, _, _, had, y0, y1, _, _, _⟩ := at_T31 (Kd.C_below HC.out B2.out) 0 (by omega) (by omega)
     injection had with had
     subst had
     have y0 : wr.cell? ad = some (.int .i64 (rd_T31 l 0).f0) := y0
     have y1 : wr.cell? ⟨ad.block, ad.off + 1, none⟩ = some (.int .i64 (rd_T31 l 0).f1) := y1
     obtain ⟨g0, hg0⟩ : ∃ g, (rd_T31 l 0).f0 = g := ⟨_, rfl⟩
     obtain ⟨g1, hg1⟩ : ∃ g, (rd_T31 l 0).f1 = g := ⟨_, rfl⟩
     rw [hg0] at y0
     rw [hg1] at y1
     have Y0 := Aside0.mk y0
     have Y1 := Aside0.mk y1
     have HSS : Aside0 (sameSize (rd_T31 l 0) (l.drop i) = (decide (f0 = g0) && decide (f1 = g1) && sameSize (rd_T31 l 0) (l.drop (i + 1)))) := ⟨by rw [sameSize_drop _ (by rw [HN.out]; exact hlt), hf0, hf1, hg0, hg1]⟩
     have j1 : ((0 : Int) < (n : Int)) = True := eq_true (by omega)
     have j2 : (0 < n) = True := eq_true (by omega)
     clear y0 y1 hf0 hf1 hs hm hlt hg0 hg1
     go_upto_region 13 with (((with_reducible refine gate_dst (N := 7) rfl ?_); refine box_event ?hg (N := 7) ?hd (cs := #[.int .i64 0, .int .i64 0, .slice none 0 0]) (t := 31) ?hr ?_; (case hd => rfl); (case hg => rfl); (case hr => first | (go_simp; done) | (go_simp; rfl)); intro gq hg_ w3 hm_ hb_; have X_ := Aside0.mk (put3 (x := .int .i64 f0) (y := .int .i64 f1) (z := .slice A2 m c2) hm_ rfl); have HB_ := Aside0.mk ((show Below wr.heap.size wr w3 from hb_).trans (X_.out.2.2 _ (by rw [hg_]; exact Nat.le_refl _))); have P4 := Aside0.mk (blk_below P2.out HB_.out); have B4 := Aside0.mk (below_step B2.out HB_.out); have Q4 := Aside0.mk (X_.out.1); have HBK := HB_; have M_ := Aside0.mk hm_; have o0 := (blk_cell M_.out 0).trans rfl; have o1 := (blk_cell M_.out 1).trans rfl; have o2 := (blk_cell M_.out 2).trans rfl; have fo0 := blk_frozen M_.out 0; have fo1 := blk_frozen M_.out 1; have fo2 := blk_frozen M_.out 2; clear hm_ hb_ hg_ X_ HB_ M_))
     generalize ((w3.setCell ⟨gq, 0, none⟩ (.int .i64 f0)).setCell ⟨gq, 1, none⟩ (.int .i64 f1)).setCell ⟨gq, 2, none⟩ (.slice A2 m c2) = wq at *
     clear o0 o1 o2 fo0 fo1 fo2 x0 x1 x2 i1 i2 haq p1
     have p1 := (blk_cell P4.out 1).trans rfl
     have q0 := (blk_cell Q4.out 0).trans rfl
     have q1 := (blk_cell Q4.out 1).trans rfl
     have y0 := (HBK.out.cell (World.block_lt_of_cell? _ _ Y0.out)).trans Y0.out
     have y1 := (HBK.out.cell (World.block_lt_of_cell? _ _ Y1.out)).trans Y1.out
     clear Y0 Y1 HBK Q4
     by_cases e0 : f0 = g0
     ·have t0 : (f0 != g0) = false := by rw [bne_eq_false_iff_eq]; exact e0
      by_cases e1 : f1 = g1
      ·have t1 : (f1 != g1) = false := by rw [bne_eq_false_iff_eq]; exact e1
       have HF : Aside0 (sameSize (rd_T31 l 0) (l.drop (i + 1)) = sameSize (rd_T31 l 0) l) := ⟨by rw [← F2.out, HSS.out, decide_eq_true e0, decide_eq_true e1]; rfl⟩
       clear e0 e1
       go_quiet (fail)
       go_wp2
       have hlt := HLT.out
       go_roundw
       case measure => simp [intOf]; omega
       case rel => exact ⟨i + 1, by omega, by go_num, ⟨blk_drewN P4.out _, pw_below_drewN B4.out _, HF.out⟩⟩
      ·have t1 : (f1 != g1) = true := by rw [bne_iff_ne]; exact e1
       have HZ2 : Aside0 (z = 80) := ⟨by rw [HZ1.out, HFE.out, if_neg (fun h => h rfl), ← F2.out, HSS.out, decide_eq_false e1, Bool.and_false, Bool.false_and, if_neg (by decide)]⟩
       clear e0 e1
       go_quiet (fail)
       go_wp2
       go_ret
       exact ⟨by rw [HZ2.out]; rfl, pw_below_drewN B4.out _⟩
     ·have t0 : (f0 != g0) = true := by rw [bne_iff_ne]; exact e0
      have HZ2 : Aside0 (z = 80) := ⟨by rw [HZ1.out, HFE.out, if_neg (fun h => h rfl), ← F2.out, HSS.out, decide_eq_false e0, Bool.false_and, Bool.false_and, if_neg (by decide)]⟩
      clear e0
      go_quiet (fail)
      go_wp2
      go_ret
      exact ⟨by rw [HZ2.out]; rfl, pw_below_drewN B4.out _⟩
    ·obtain rfl : n = i := by omega
     have c1 : decide ((n : Int) < (n : Int)) = false := decide_eq_false (by omega)
     have HSA : Aside0 (sameSize (rd_T31 l 0) l = true) := ⟨by rw [← F2.out, List.drop_of_length_le (by rw [HN.out]; exact Nat.le_refl _)]; rfl⟩
     have HZ2 : Aside0 (z = spaceE sp n) := ⟨by rw [HZ1.out, HFE.out, if_neg (fun h => h rfl), HSA.out, if_pos rfl]⟩
     have HSE := Aside0.mk (spaceE_f sp n)
     obtain ⟨se, hse⟩ : ∃ e, spaceE sp n = e := ⟨_, rfl⟩
     rw [hse] at HSE HZ2
     clear hse F2 hlt
     have p0 := (blk_cell P2.out 0).trans rfl
     have p1 := (blk_cell P2.out 1).trans rfl
     go_wp2_with (go_at_call 84; with_reducible refine (picture_spaceOf.calls sp (n : Int) (se : Int) _ HSE.out).mono ?_; rintro e w5 ⟨rfl, hd⟩; have B5 := Aside0.mk (below_step B2.out (drawn_below hd)); clear hd)
     go_ret
     exact ⟨by rw [HZ2.out]; rfl, B5.out⟩
theorem picture_ok (sp : Int) (A : Option Addr) (cap : Nat) (l : List S31) (w : World) (hC : Kd.C k31 w A l.length l) (hcap : l.length ≤ cap) (hl : l.length < 4611686018427387904) (hc : ∀ i : Nat, i < l.length → (rd_T31 l (i : Int)).f2.length < 4611686018427387904) (h : picE sp l = 0) :
    Calls Try.prog 63 #[.agg #[.int .i64 sp, .slice A l.length cap]] w fun e w' => e = .returned (.int .i64 0) ∧ Below w.heap.size w w' := by
 refine (picture_chk sp A cap l.length l w rfl hC hcap hl hc).mono ?_
 rw [h]
 exact fun _ _ h => h
end Go.Proofs.Ytbbebhdcfopmmaa.A
end
section
set_option linter.unusedVariables false
set_option linter.unusedSimpArgs false
namespace Go.Proofs.Ytbbebhdcfopmmaa.A
open Go.RowKit Go.Proofs.YtbbebhdcfopmmaaW.PrintWords Go.Proofs.YtbbebhdcfopmmaaW.PrintLast Go.Proofs.YtbbebhdcfopmmaaW.PrintMore Go.Proofs.Ytbbebhdcfopmmaa.PCodecNames

theorem put5 {w3 w4 : World} {g : Nat} {t : TypeId} {a b c d e x y z u v : Value} (hP : w3.heap[g]? = some (.cells #[a, b, c, d, e] t (0, 0))) (h : w4 = ((((w3.setCell ⟨g, 0, none⟩ x).setCell ⟨g, 1, none⟩ y).setCell ⟨g, 2, none⟩ z).setCell ⟨g, 3, none⟩ u).setCell ⟨g, 4, none⟩ v) :
    w4.heap[g]? = some (.cells #[x, y, z, u, v] t (0, 0)) ∧ (∀ k, k ≠ g → w4.heap[k]? = w3.heap[k]?) ∧ (∀ B, B ≤ g → Below B w3 w4) := by
 subst h
 refine ⟨(blk_set ((blk_set ((blk_set ((blk_set ((blk_set hP 0 x).trans rfl) 1 y).trans rfl) 2 z).trans rfl) 3 u).trans rfl) 4 v).trans rfl, fun k hk => ?_, fun B hB => ?_⟩
 ·exact (Below.heap_setCell _ _ _ k hk).trans ((Below.heap_setCell _ _ _ k hk).trans ((Below.heap_setCell _ _ _ k hk).trans ((Below.heap_setCell _ _ _ k hk).trans (Below.heap_setCell _ _ _ k hk))))
 ·exact (((((Below.refl B w3).setCell (p := ⟨g, 0, none⟩) hB x).setCell (p := ⟨g, 1, none⟩) hB y).setCell (p := ⟨g, 2, none⟩) hB z).setCell (p := ⟨g, 3, none⟩) hB u).setCell (p := ⟨g, 4, none⟩) hB v
theorem put4 {w3 w4 : World} {g : Nat} {t : TypeId} {a b c d x y z u : Value} (hP : w3.heap[g]? = some (.cells #[a, b, c, d] t (0, 0))) (h : w4 = (((w3.setCell ⟨g, 0, none⟩ x).setCell ⟨g, 1, none⟩ y).setCell ⟨g, 2, none⟩ z).setCell ⟨g, 3, none⟩ u) :
    w4.heap[g]? = some (.cells #[x, y, z, u] t (0, 0)) ∧ (∀ k, k ≠ g → w4.heap[k]? = w3.heap[k]?) ∧ (∀ B, B ≤ g → Below B w3 w4) := by
 subst h
 refine ⟨(blk_set ((blk_set ((blk_set ((blk_set hP 0 x).trans rfl) 1 y).trans rfl) 2 z).trans rfl) 3 u).trans rfl, fun k hk => ?_, fun B hB => ?_⟩
 ·exact (Below.heap_setCell _ _ _ k hk).trans ((Below.heap_setCell _ _ _ k hk).trans ((Below.heap_setCell _ _ _ k hk).trans (Below.heap_setCell _ _ _ k hk)))
 ·exact ((((Below.refl B w3).setCell (p := ⟨g, 0, none⟩) hB x).setCell (p := ⟨g, 1, none⟩) hB y).setCell (p := ⟨g, 2, none⟩) hB z).setCell (p := ⟨g, 3, none⟩) hB u
def outH (p : Pic) (S i : Nat) : List Nat := [72, 76, 68, 49, p.sp % 256, p.ss.length % 256] ++ ([p.w, p.h, S].take i).flatMap (beN 2)
theorem outH_succ (p : Pic) (S i : Nat) (hi : i < 3) : outH p S (i + 1) = outH p S i ++ beN 2 (gt [p.w, p.h, S] i) := by
 match i, hi with
 | 0, _ => simp [outH, gt]
 | 1, _ => simp [outH, gt]
 | 2, _ => simp [outH, gt]
theorem outH_three (p : Pic) (S : Nat) : outH p S 3 = p.head S := by simp [outH, Pic.head]
theorem outH_len (p : Pic) (S i : Nat) (hi : i ≤ 3) : (outH p S i).length = 6 + 2 * i := by
 match i, hi with
 | 0, _ => rfl
 | 1, _ => rfl
 | 2, _ => rfl
 | 3, _ => rfl
theorem arr_list (l : List Value) (j : Nat) : l.toArray[j]? = l[j]? := by simp

set_option maxHeartbeats 8000000 in
set_option maxRecDepth 100000 in
theorem Encode_calls2 (p : Pic) (S cap : Nat) (l : List S31) (A : Option Addr) (w : World) (hl : l = p.s31s) (hp : p.ok) (hS : 1 ≤ S) (hS2 : S ≤ 1024) (hC : Kd.C k31 w A l.length l) (hcap : l.length ≤ cap) :
    Calls Try.prog 31 #[.agg #[.int .i64 (p.sp : Int), .slice A l.length cap], .int .i64 (S : Int)] w fun e w' => ∃ v, e = .returned (.tuple #[v, .int .i64 0]) ∧ OwnB w' w.heap.size v (encN p S) ∧ Below w.heap.size w w' := by
 have hu31 := Try.underlying31
 have hu47 := Try.underlying47
 have hu60 := Try.underlying60
 have hu105 := Try.underlying105
 have hu106 := Try.underlying106
 have hu73 := Try.underlying73
 obtain ⟨p1, p2, p3, p4, p5⟩ := hp
 have hll : l.length < 4611686018427387904 := by rw [hl, Pic.ok.len ⟨p1, p2, p3, p4, p5⟩]; omega
 have HLL := Aside0.mk hll
 have HLC : Aside0 (∀ i : Nat, i < l.length → (rd_T31 l (i : Int)).f2.length < 4611686018427387904) := ⟨fun i hi => by
  rw [hl] at hi ⊢
  rw [Pic.ok.len ⟨p1, p2, p3, p4, p5⟩] at hi
  rw [p.s31s_at hi]
  simp only [ints_length]
  have h6 := (p5 i hi).2.2.2.2.2.1; have h5 := (p5 i hi).2.2.2.2.1
  simp only [Pic.pl] at h5 h6
  omega⟩
 have HPK : Aside0 (picE (p.sp : Int) l = 0) := ⟨by rw [hl, Pic.ok.pic0 ⟨p1, p2, p3, p4, p5⟩]⟩
 clear hll
 have HC := Aside0.mk hC
 have HL := Aside0.mk hl
 have HK : Aside0 (l.length = p.ss.length) := ⟨by rw [hl]; exact Pic.ok.len ⟨p1, p2, p3, p4, p5⟩⟩
 have HOK : Aside0 p.ok := ⟨⟨p1, p2, p3, p4, p5⟩⟩
 have HCAP := Aside0.mk hcap
 have t1 : decide ((S : Int) < 1) = false := decide_eq_false (by omega)
 have t2 : decide (1024 < S) = false := decide_eq_false (by omega)
 have t2' : decide (1024 < (S : Int)) = false := decide_eq_false (by omega)
 have t3 : decide (S < 1) = false := decide_eq_false (by omega)
 obtain ⟨ad, A0, c0, rfl, x0, x1, _⟩ := at_T31 hC 0 (by omega) (by rw [HK.out]; omega)
 have e0 : rd_T31 l 0 = ⟨(p.w : Int), (p.h : Int), ints (p.ss.getD 0 [])⟩ := by rw [hl]; exact p.s31s_at (k := 0) p2
 rw [e0] at x0 x1
 have HX0 : Aside0 (w.cell? ad = some (.int .i64 (p.w : Int))) := ⟨x0⟩
 have HX1 : Aside0 (w.cell? ⟨ad.block, ad.off + 1, none⟩ = some (.int .i64 (p.h : Int))) := ⟨x1⟩
 obtain ⟨sa, hsa⟩ : ∃ sa, sa = p.sp % 256 := ⟨_, rfl⟩
 obtain ⟨sb, hsb⟩ : ∃ sb, sb = p.ss.length % 256 := ⟨_, rfl⟩
 have e8a : IntKind.u8.wrap (p.sp : Int) = (sa : Int) := by simp only [IntKind.wrap_u8]; omega
 have e8b : IntKind.u8.wrap (l.length : Int) = (sb : Int) := by rw [HK.out]; simp only [IntKind.wrap_u8]; omega
 have HSA := Aside0.mk hsa
 have HSB := Aside0.mk hsb
 have hwb : p.w ≤ 1024 := (p5 0 p2).2.2.1
 have hhb : p.h ≤ 1024 := (p5 0 p2).2.2.2.1
 have HWH : Aside0 (p.w ≤ 1024 ∧ p.h ≤ 1024 ∧ 1 ≤ S ∧ S ≤ 1024) := ⟨⟨hwb, hhb, hS, hS2⟩⟩
 have h0L : (0 < l.length) = True := eq_true (by rw [HK.out]; exact p2)
 clear x0 x1 e0 p1 p2 p3 p4 p5 hl hC hcap hS hS2 hsa hsb hwb hhb
 go_enter Try.func31, Try.ntmps31
 go_wp2_with (first | ((with_reducible refine gate_dst (N := 2) rfl ?_); refine box_event ?hg (N := 2) ?hd (cs := #[.int .i64 (p.sp : Int), .slice (some ad) l.length cap]) (t := 47) ?hr ?_; (case hd => rfl); (case hg => rfl); (case hr => first | (go_simp; done) | (go_simp; rfl)); intro gP hg_ w1 hm_ hb_; have P1 := Aside0.mk (hm_); have B1 := Aside0.mk (hb_); have GP := Aside0.mk (show w.heap.size ≤ gP by rw [hg_]; exact Nat.le_refl _); have y0 := (blk_cell P1.out 0).trans rfl; have y1 := (blk_cell P1.out 1).trans rfl; clear hm_ hb_ hg_) |
  (go_at_call 63; with_reducible refine (picture_ok (p.sp : Int) (some ad) cap l _ (Kd.C_below HC.out B1.out) HCAP.out HLL.out HLC.out HPK.out).mono ?_; rintro e w2 ⟨rfl, hb⟩; have P2 := Aside0.mk (blk_below P1.out hb); have B2 := Aside0.mk (below_step B1.out hb); clear hb y0 y1))
 have D2 := Aside0.mk (blk_drew P2.out)
 have DB := Aside0.mk (below_drew1 B2.out)
 clear P2 B2
 have P2 := D2; have B2 := DB
 clear D2 DB
 have X0 : Aside0 (w2.drew.cell? ad = some (.int .i64 (p.w : Int))) := ⟨(B2.out.cell (World.block_lt_of_cell? w _ HX0.out)).trans HX0.out⟩
 have X1 : Aside0 (w2.drew.cell? ⟨ad.block, ad.off + 1, none⟩ = some (.int .i64 (p.h : Int))) := ⟨(B2.out.cell (World.block_lt_of_cell? w _ HX1.out)).trans HX1.out⟩
 refine start_ (n := 20) (S := fun w' => w'.cell? ⟨gP, 0, none⟩ = some (.int .i64 (p.sp : Int)) ∧ w'.cell? ⟨gP, 1, none⟩ = some (.slice (some ad) l.length cap) ∧ w'.cell? ad = some (.int .i64 (p.w : Int)) ∧ w'.cell? ⟨ad.block, ad.off + 1, none⟩ = some (.int .i64 (p.h : Int))) (ds := [19]) #[ff_,ff_,ff_,ff_,ff_,ff_,ff_,ff_,ff_,ff_,ff_,ff_,ff_,ff_,ff_,ff_,ff_,ff_,ff_,ff_] (by kernel_rfl) rfl rfl ⟨(blk_cell P2.out 0).trans rfl, (blk_cell P2.out 1).trans rfl, X0.out, X1.out⟩ (fun hHeld => ?_)
 generalize w2.drew = wd at *
 refine pure_ (i := 0) (N := some 34) (v := ?_) (a' := ?_) #[tt_,ff_,ff_,ff_,ff_,ff_,ff_,ff_,ff_,ff_,ff_,ff_,ff_,ff_,ff_,ff_,ff_,ff_,ff_,ff_] rfl rfl (by kernel_rfl) (fun _ _ _ h => h) (Or.inl ⟨by rfl, ?_⟩) ?_ ?_
 rotate_left
 ·intro w'
  go_simp
  with_reducible rfl
 rotate_left
 ·simp only [Act.put, List.setIfInBounds_toArray, List.set_cons_zero, List.set_cons_succ, i64_w, i32_w]
  rfl
 refine pure_ (i := 2) (N := some 36) (v := ?_) (a' := ?_) #[tt_,ff_,tt_,ff_,ff_,ff_,ff_,ff_,ff_,ff_,ff_,ff_,ff_,ff_,ff_,ff_,ff_,ff_,ff_,ff_] rfl rfl (by kernel_rfl) (fun _ _ _ h => h) (Or.inl ⟨by rfl, ?_⟩) ?_ ?_
 rotate_left
 ·intro w'
  go_simp
  with_reducible rfl
 rotate_left
 ·simp only [Act.put, List.setIfInBounds_toArray, List.set_cons_zero, List.set_cons_succ, i64_w, i32_w]
  rfl
 refine pure_ (i := 5) (N := some 39) (v := ?_) (a' := ?_) #[tt_,ff_,tt_,ff_,ff_,tt_,ff_,ff_,ff_,ff_,ff_,ff_,ff_,ff_,ff_,ff_,ff_,ff_,ff_,ff_] rfl rfl (by kernel_rfl) (fun _ _ _ h => h) (Or.inl ⟨by rfl, ?_⟩) ?_ ?_
 rotate_left
 ·intro w'
  go_simp
  with_reducible rfl
 rotate_left
 ·simp only [Act.put, List.setIfInBounds_toArray, List.set_cons_zero, List.set_cons_succ, i64_w, i32_w]
  rfl
 refine pure_ (i := 10) (N := some 44) (v := ?_) (a' := ?_) #[tt_,ff_,tt_,ff_,ff_,tt_,ff_,ff_,ff_,ff_,tt_,ff_,ff_,ff_,ff_,ff_,ff_,ff_,ff_,ff_] rfl rfl (by kernel_rfl) (fun _ _ _ h => h) (Or.inl ⟨by rfl, ?_⟩) ?_ ?_
 rotate_left
 ·intro w'
  go_simp
  with_reducible rfl
 rotate_left
 ·simp only [Act.put, List.setIfInBounds_toArray, List.set_cons_zero, List.set_cons_succ, i64_w, i32_w]
  rfl
 refine pure_ (i := 15) (N := some 49) (v := ?_) (a' := ?_) #[tt_,ff_,tt_,ff_,ff_,tt_,ff_,ff_,ff_,ff_,tt_,ff_,ff_,ff_,ff_,tt_,ff_,ff_,ff_,ff_] rfl rfl (by kernel_rfl) (fun _ _ _ h => h) (Or.inl ⟨by rfl, ?_⟩) ?_ ?_
 rotate_left
 ·intro w'
  go_simp
  with_reducible rfl
 rotate_left
 ·simp only [Act.put, List.setIfInBounds_toArray, List.set_cons_zero, List.set_cons_succ, i64_w, i32_w]
  rfl
 refine take_ (i := 1) (N := some 35) (v := ?_) (a' := ?_) #[tt_,tt_,tt_,ff_,ff_,tt_,ff_,ff_,ff_,ff_,tt_,ff_,ff_,ff_,ff_,tt_,ff_,ff_,ff_,ff_] rfl rfl (by kernel_rfl) (fun _ _ _ h => h) (Or.inl ⟨by rfl, ?_⟩) hHeld ?_ ?_
 rotate_left
 ·rintro w' ⟨s0, s1, s2, s3⟩
  go_simp
  with_reducible rfl
 rotate_left
 ·simp only [Act.put, List.setIfInBounds_toArray, List.set_cons_zero, List.set_cons_succ, i64_w, i32_w]
  rfl
 refine take_ (i := 3) (N := some 37) (v := ?_) (a' := ?_) #[tt_,tt_,tt_,tt_,ff_,tt_,ff_,ff_,ff_,ff_,tt_,ff_,ff_,ff_,ff_,tt_,ff_,ff_,ff_,ff_] rfl rfl (by kernel_rfl) (fun _ _ _ h => h) (Or.inl ⟨by rfl, ?_⟩) hHeld ?_ ?_
 rotate_left
 ·rintro w' ⟨s0, s1, s2, s3⟩
  go_simp
  with_reducible rfl
 rotate_left
 ·simp only [Act.put, List.setIfInBounds_toArray, List.set_cons_zero, List.set_cons_succ, i64_w, i32_w]
  rfl
 refine pure_ (i := 4) (N := some 38) (v := ?_) (a' := ?_) #[tt_,tt_,tt_,tt_,tt_,tt_,ff_,ff_,ff_,ff_,tt_,ff_,ff_,ff_,ff_,tt_,ff_,ff_,ff_,ff_] rfl rfl (by kernel_rfl) (fun _ _ _ h => h) (Or.inl ⟨by rfl, ?_⟩) ?_ ?_
 rotate_left
 ·intro w'
  go_simp
  with_reducible rfl
 rotate_left
 ·simp only [Act.put, List.setIfInBounds_toArray, List.set_cons_zero, List.set_cons_succ, i64_w, i32_w]
  rfl
 refine take_ (i := 6) (N := some 40) (v := ?_) (a' := ?_) #[tt_,tt_,tt_,tt_,tt_,tt_,tt_,ff_,ff_,ff_,tt_,ff_,ff_,ff_,ff_,tt_,ff_,ff_,ff_,ff_] rfl rfl (by kernel_rfl) (fun _ _ _ h => h) (Or.inl ⟨by rfl, ?_⟩) hHeld ?_ ?_
 rotate_left
 ·rintro w' ⟨s0, s1, s2, s3⟩
  go_simp
  with_reducible rfl
 rotate_left
 ·simp only [Act.put, List.setIfInBounds_toArray, List.set_cons_zero, List.set_cons_succ, i64_w, i32_w]
  rfl
 refine pure_ (i := 7) (N := some 41) (v := ?_) (a' := ?_) #[tt_,tt_,tt_,tt_,tt_,tt_,tt_,tt_,ff_,ff_,tt_,ff_,ff_,ff_,ff_,tt_,ff_,ff_,ff_,ff_] rfl rfl (by kernel_rfl) (fun _ _ _ h => h) (Or.inl ⟨by rfl, ?_⟩) ?_ ?_
 rotate_left
 ·intro w'
  go_simp
  with_reducible rfl
 rotate_left
 ·simp only [Act.put, List.setIfInBounds_toArray, List.set_cons_zero, List.set_cons_succ, i64_w, i32_w]
  rfl
 refine pure_ (i := 8) (N := some 42) (v := ?_) (a' := ?_) #[tt_,tt_,tt_,tt_,tt_,tt_,tt_,tt_,tt_,ff_,tt_,ff_,ff_,ff_,ff_,tt_,ff_,ff_,ff_,ff_] rfl rfl (by kernel_rfl) (fun _ _ _ h => h) (Or.inl ⟨by rfl, ?_⟩) ?_ ?_
 rotate_left
 ·intro w'
  go_simp
  with_reducible rfl
 rotate_left
 ·simp only [Act.put, List.setIfInBounds_toArray, List.set_cons_zero, List.set_cons_succ, i64_w, i32_w]
  rfl
 refine take_ (i := 9) (N := some 43) (v := ?_) (a' := ?_) #[tt_,tt_,tt_,tt_,tt_,tt_,tt_,tt_,tt_,tt_,tt_,ff_,ff_,ff_,ff_,tt_,ff_,ff_,ff_,ff_] rfl rfl (by kernel_rfl) (fun _ _ _ h => h) (Or.inl ⟨by rfl, ?_⟩) hHeld ?_ ?_
 rotate_left
 ·rintro w' ⟨s0, s1, s2, s3⟩
  go_simp
  with_reducible rfl
 rotate_left
 ·simp only [Act.put, List.setIfInBounds_toArray, List.set_cons_zero, List.set_cons_succ, i64_w, i32_w]
  rfl
 refine take_ (i := 11) (N := some 45) (v := ?_) (a' := ?_) #[tt_,tt_,tt_,tt_,tt_,tt_,tt_,tt_,tt_,tt_,tt_,tt_,ff_,ff_,ff_,tt_,ff_,ff_,ff_,ff_] rfl rfl (by kernel_rfl) (fun _ _ _ h => h) (Or.inl ⟨by rfl, ?_⟩) hHeld ?_ ?_
 rotate_left
 ·rintro w' ⟨s0, s1, s2, s3⟩
  go_simp
  with_reducible rfl
 rotate_left
 ·simp only [Act.put, List.setIfInBounds_toArray, List.set_cons_zero, List.set_cons_succ, i64_w, i32_w]
  rfl
 refine pure_ (i := 12) (N := some 46) (v := ?_) (a' := ?_) #[tt_,tt_,tt_,tt_,tt_,tt_,tt_,tt_,tt_,tt_,tt_,tt_,tt_,ff_,ff_,tt_,ff_,ff_,ff_,ff_] rfl rfl (by kernel_rfl) (fun _ _ _ h => h) (Or.inl ⟨by rfl, ?_⟩) ?_ ?_
 rotate_left
 ·intro w'
  go_simp
  with_reducible rfl
 rotate_left
 ·simp only [Act.put, List.setIfInBounds_toArray, List.set_cons_zero, List.set_cons_succ, i64_w, i32_w]
  rfl
 refine pure_ (i := 13) (N := some 47) (v := ?_) (a' := ?_) #[tt_,tt_,tt_,tt_,tt_,tt_,tt_,tt_,tt_,tt_,tt_,tt_,tt_,tt_,ff_,tt_,ff_,ff_,ff_,ff_] rfl rfl (by kernel_rfl) (fun _ _ _ h => h) (Or.inl ⟨by rfl, ?_⟩) ?_ ?_
 rotate_left
 ·intro w'
  go_simp
  with_reducible rfl
 rotate_left
 ·simp only [Act.put, List.setIfInBounds_toArray, List.set_cons_zero, List.set_cons_succ, i64_w, i32_w]
  rfl
 refine take_ (i := 14) (N := some 48) (v := ?_) (a' := ?_) #[tt_,tt_,tt_,tt_,tt_,tt_,tt_,tt_,tt_,tt_,tt_,tt_,tt_,tt_,tt_,tt_,ff_,ff_,ff_,ff_] rfl rfl (by kernel_rfl) (fun _ _ _ h => h) (Or.inl ⟨by rfl, ?_⟩) hHeld ?_ ?_
 rotate_left
 ·rintro w' ⟨s0, s1, s2, s3⟩
  go_simp
  with_reducible rfl
 rotate_left
 ·simp only [Act.put, List.setIfInBounds_toArray, List.set_cons_zero, List.set_cons_succ, i64_w, i32_w]
  rfl
 refine pure_ (i := 16) (N := some 50) (v := ?_) (a' := ?_) #[tt_,tt_,tt_,tt_,tt_,tt_,tt_,tt_,tt_,tt_,tt_,tt_,tt_,tt_,tt_,tt_,tt_,ff_,ff_,ff_] rfl rfl (by kernel_rfl) (fun _ _ _ h => h) (Or.inl ⟨by rfl, ?_⟩) ?_ ?_
 rotate_left
 ·intro w'
  go_simp
  with_reducible rfl
 rotate_left
 ·simp only [Act.put, List.setIfInBounds_toArray, List.set_cons_zero, List.set_cons_succ, i64_w, i32_w]
  rfl
 refine pure_ (i := 17) (N := some 51) (v := ?_) (a' := ?_) #[tt_,tt_,tt_,tt_,tt_,tt_,tt_,tt_,tt_,tt_,tt_,tt_,tt_,tt_,tt_,tt_,tt_,tt_,ff_,ff_] rfl rfl (by kernel_rfl) (fun _ _ _ h => h) (Or.inl ⟨by rfl, ?_⟩) ?_ ?_
 rotate_left
 ·intro w'
  go_simp
  with_reducible rfl
 rotate_left
 ·simp only [Act.put, List.setIfInBounds_toArray, List.set_cons_zero, List.set_cons_succ, i64_w, i32_w]
  rfl
 refine one_ (i := 18) (N := some 7) #[tt_,tt_,tt_,tt_,tt_,tt_,tt_,tt_,tt_,tt_,tt_,tt_,tt_,tt_,tt_,tt_,tt_,tt_,tt_,ff_] rfl rfl (by kernel_rfl) (by decide) (fun K hK => ?_)
 refine alloc_step (cs := #[.int .i64 0, .int .i64 0, .int .i64 0, .int .i64 0, .int .i64 0]) (t := 105) (by rfl) rfl (by first | (go_simp; done) | (go_simp; rfl)) ?_
 intro gG hgG
 have P3 := Aside0.mk (blk_alloc P2.out (.cells #[.int .i64 0, .int .i64 0, .int .i64 0, .int .i64 0, .int .i64 0] 105 (0, 0)))
 have B3 := Aside0.mk (below_alloc B2.out (.cells #[.int .i64 0, .int .i64 0, .int .i64 0, .int .i64 0, .int .i64 0] 105 (0, 0)))
 have G3 := Aside0.mk (blk_new wd (.cells #[.int .i64 0, .int .i64 0, .int .i64 0, .int .i64 0, .int .i64 0] 105 (0, 0)))
 rw [← hgG] at G3
 have GG := Aside0.mk (show w.heap.size ≤ gG by rw [hgG]; exact below_size B2.out)
 clear hgG
 generalize wd.alloc (.cells #[.int .i64 0, .int .i64 0, .int .i64 0, .int .i64 0, .int .i64 0] 105 (0, 0)) = w3 at *
 have q0 := (blk_cell G3.out 0).trans rfl
 have q1 := (blk_cell G3.out 1).trans rfl
 have q2 := (blk_cell G3.out 2).trans rfl
 have q3 := (blk_cell G3.out 3).trans rfl
 have q4 := (blk_cell G3.out 4).trans rfl
 have f0 := blk_frozen G3.out 0
 have f1 := blk_frozen G3.out 1
 have f2 := blk_frozen G3.out 2
 have f3 := blk_frozen G3.out 3
 have f4 := blk_frozen G3.out 4
 refine hK.out _ _ ⟨(blk_cell P3.out 0).trans rfl, (blk_cell P3.out 1).trans rfl, ((B3.out.cell (World.block_lt_of_cell? w _ HX0.out)).trans HX0.out), ((B3.out.cell (World.block_lt_of_cell? w _ HX1.out)).trans HX1.out)⟩ (fun hHeld => ?_)
 clear hK K
 refine norm_ (a' := ?_) ?_ ?_
 rotate_left
 ·show Act.put _ (some 7) _ = _
  simp only [Act.put, List.setIfInBounds_toArray, List.set_cons_zero, List.set_cons_succ, i64_w, i32_w]
  rfl
 refine last_ (i := 19) (N := none) #[tt_,tt_,tt_,tt_,tt_,tt_,tt_,tt_,tt_,tt_,tt_,tt_,tt_,tt_,tt_,tt_,tt_,tt_,tt_,tt_] rfl rfl (by kernel_rfl) (by decide) (fun K hK => ?_)
 refine skip_ (w1 := ?_) (by rfl) rfl ?_ ?_
 rotate_left
 ·go_simp
  rfl
 refine hK.out _ _ ?_
 clear hK K
 refine done_ (by kernel_rfl) ?_
 obtain ⟨w4, hw4⟩ : ∃ w4, w4 = ((((w3.setCell ⟨gG, 0, none⟩ (.int .i64 (p.sp : Int))).setCell ⟨gG, 1, none⟩ (.int .i64 (l.length : Int))).setCell ⟨gG, 2, none⟩ (.int .i64 (p.w : Int))).setCell ⟨gG, 3, none⟩ (.int .i64 (p.h : Int))).setCell ⟨gG, 4, none⟩ (.int .i64 (S : Int)) := ⟨_, rfl⟩
 rw [← hw4]
 obtain ⟨hG4, hst4, hbl4⟩ := put5 G3.out hw4
 have G4 := Aside0.mk hG4
 have P4 := Aside0.mk ((hst4 gP (blk_ne P3.out G3.out (by decide))).trans P3.out)
 have B4 := Aside0.mk (B3.out.trans (hbl4 _ GG.out))
 clear hw4 hG4 hst4 hbl4 q0 q1 q2 q3 q4 f0 f1 f2 f3 f4 P3 G3 B3 X0 X1 P2 B2
 go_wp2_with (first | (go_at_call 64; refine (magic_calls _).mono ?_; rintro e w5 ⟨rfl, hb⟩; have P5 := Aside0.mk (blk_below P4.out hb); have G5 := Aside0.mk (blk_below G4.out hb); have B5 := Aside0.mk (below_step B4.out hb); clear hb) | ((with_reducible refine gate_dst (N := 8) rfl ?_); refine box_event ?hg (N := 8) ?hd (cs := #[.int .u8 0, .int .u8 0, .int .u8 0, .int .u8 0]) (t := 106) ?hr ?_; (case hd => rfl); (case hg => rfl); (case hr => first | (go_simp; done) | (go_simp; rfl)); intro gM hg_ w6 hm_ hb_; have M6 := Aside0.mk (hm_); have P6 := Aside0.mk (blk_below P5.out hb_); have G6 := Aside0.mk (blk_below G5.out hb_); have B6 := Aside0.mk (below_step B5.out hb_); have GM := Aside0.mk (show w.heap.size ≤ gM by rw [hg_]; exact below_size B5.out); have q0 := (blk_cell M6.out 0).trans rfl; have q1 := (blk_cell M6.out 1).trans rfl; have q2 := (blk_cell M6.out 2).trans rfl; have q3 := (blk_cell M6.out 3).trans rfl; have f0 := blk_frozen M6.out 0; have f1 := blk_frozen M6.out 1; have f2 := blk_frozen M6.out 2; have f3 := blk_frozen M6.out 3; clear hm_ hb_ hg_))
 obtain ⟨w7, hw7⟩ : ∃ w7, w7 = (((w6.setCell ⟨gM, 0, none⟩ (.int .u8 72)).setCell ⟨gM, 1, none⟩ (.int .u8 76)).setCell ⟨gM, 2, none⟩ (.int .u8 68)).setCell ⟨gM, 3, none⟩ (.int .u8 49) := ⟨_, rfl⟩
 rw [← hw7]
 obtain ⟨hM7, hst7, hbl7⟩ := put4 M6.out hw7
 have M7 := Aside0.mk (blk_drew hM7)
 have P7 := Aside0.mk (blk_drew ((hst7 gP (blk_ne P6.out M6.out (by decide))).trans P6.out))
 have G7 := Aside0.mk (blk_drew ((hst7 gG (blk_ne G6.out M6.out (by decide))).trans G6.out))
 have B7 := Aside0.mk (below_drew1 (B6.out.trans (hbl7 _ GM.out)))
 have B7w := B7
 clear hw7 hM7 hst7 hbl7 q0 q1 q2 q3 f0 f1 f2 f3 P6 G6 B6 M6
 refine start_ (n := 12) (S := fun w' => w'.cell? ⟨gG, 0, none⟩ = some (.int .i64 (p.sp : Int)) ∧ w'.cell? ⟨gG, 1, none⟩ = some (.int .i64 (l.length : Int))) (ds := []) #[ff_,ff_,ff_,ff_,ff_,ff_,ff_,ff_,ff_,ff_,ff_,ff_] (by kernel_rfl) rfl rfl ⟨(blk_cell G7.out 0).trans rfl, (blk_cell G7.out 1).trans rfl⟩ (fun hHeld => ?_)
 generalize w7.drew = wd at *
 refine pure_ (i := 0) (N := some 53) (v := ?_) (a' := ?_) #[tt_,ff_,ff_,ff_,ff_,ff_,ff_,ff_,ff_,ff_,ff_,ff_] rfl rfl (by kernel_rfl) (fun _ _ _ h => h) (Or.inl ⟨by rfl, ?_⟩) ?_ ?_
 rotate_left
 ·intro w'
  go_simp
  with_reducible rfl
 rotate_left
 ·simp only [Act.put, List.setIfInBounds_toArray, List.set_cons_zero, List.set_cons_succ, i64_w, i32_w]
  rfl
 refine pure_ (i := 1) (N := some 54) (v := ?_) (a' := ?_) #[tt_,tt_,ff_,ff_,ff_,ff_,ff_,ff_,ff_,ff_,ff_,ff_] rfl rfl (by kernel_rfl) (fun _ _ _ h => h) (Or.inl ⟨by rfl, ?_⟩) ?_ ?_
 rotate_left
 ·intro w'
  go_simp
  with_reducible rfl
 rotate_left
 ·simp only [Act.put, List.setIfInBounds_toArray, List.set_cons_zero, List.set_cons_succ, i64_w, i32_w]
  rfl
 refine pure_ (i := 2) (N := some 55) (v := ?_) (a' := ?_) #[tt_,tt_,tt_,ff_,ff_,ff_,ff_,ff_,ff_,ff_,ff_,ff_] rfl rfl (by kernel_rfl) (fun _ _ _ h => h) (Or.inl ⟨by rfl, ?_⟩) ?_ ?_
 rotate_left
 ·intro w'
  go_simp
  with_reducible rfl
 rotate_left
 ·simp only [Act.put, List.setIfInBounds_toArray, List.set_cons_zero, List.set_cons_succ, i64_w, i32_w]
  rfl
 refine pure_ (i := 5) (N := some 58) (v := ?_) (a' := ?_) #[tt_,tt_,tt_,ff_,ff_,tt_,ff_,ff_,ff_,ff_,ff_,ff_] rfl rfl (by kernel_rfl) (fun _ _ _ h => h) (Or.inl ⟨by rfl, ?_⟩) ?_ ?_
 rotate_left
 ·intro w'
  go_simp
  with_reducible rfl
 rotate_left
 ·simp only [Act.put, List.setIfInBounds_toArray, List.set_cons_zero, List.set_cons_succ, i64_w, i32_w]
  rfl
 refine pure_ (i := 6) (N := some 59) (v := ?_) (a' := ?_) #[tt_,tt_,tt_,ff_,ff_,tt_,tt_,ff_,ff_,ff_,ff_,ff_] rfl rfl (by kernel_rfl) (fun _ _ _ h => h) (Or.inl ⟨by rfl, ?_⟩) ?_ ?_
 rotate_left
 ·intro w'
  go_simp
  with_reducible rfl
 rotate_left
 ·simp only [Act.put, List.setIfInBounds_toArray, List.set_cons_zero, List.set_cons_succ, i64_w, i32_w]
  rfl
 refine take_ (i := 3) (N := some 56) (v := ?_) (a' := ?_) #[tt_,tt_,tt_,tt_,ff_,tt_,tt_,ff_,ff_,ff_,ff_,ff_] rfl rfl (by kernel_rfl) (fun _ _ _ h => h) (Or.inl ⟨by rfl, ?_⟩) hHeld ?_ ?_
 rotate_left
 ·rintro w' ⟨s0, s1⟩
  go_simp
  with_reducible rfl
 rotate_left
 ·simp only [Act.put, List.setIfInBounds_toArray, List.set_cons_zero, List.set_cons_succ, i64_w, i32_w]
  rfl
 refine pure_ (i := 4) (N := some 57) (v := ?_) (a' := ?_) #[tt_,tt_,tt_,tt_,tt_,tt_,tt_,ff_,ff_,ff_,ff_,ff_] rfl rfl (by kernel_rfl) (fun _ _ _ h => h) (Or.inl ⟨by rfl, ?_⟩) ?_ ?_
 rotate_left
 ·intro w'
  go_simp
  with_reducible rfl
 rotate_left
 ·simp only [Act.put, List.setIfInBounds_toArray, List.set_cons_zero, List.set_cons_succ, i64_w, i32_w]
  rfl
 refine take_ (i := 7) (N := some 60) (v := ?_) (a' := ?_) #[tt_,tt_,tt_,tt_,tt_,tt_,tt_,tt_,ff_,ff_,ff_,ff_] rfl rfl (by kernel_rfl) (fun _ _ _ h => h) (Or.inl ⟨by rfl, ?_⟩) hHeld ?_ ?_
 rotate_left
 ·rintro w' ⟨s0, s1⟩
  go_simp
  with_reducible rfl
 rotate_left
 ·simp only [Act.put, List.setIfInBounds_toArray, List.set_cons_zero, List.set_cons_succ, i64_w, i32_w]
  rfl
 refine pure_ (i := 8) (N := some 61) (v := ?_) (a' := ?_) #[tt_,tt_,tt_,tt_,tt_,tt_,tt_,tt_,tt_,ff_,ff_,ff_] rfl rfl (by kernel_rfl) (fun _ _ _ h => h) (Or.inl ⟨by rfl, ?_⟩) ?_ ?_
 rotate_left
 ·intro w'
  go_simp
  with_reducible rfl
 rotate_left
 ·simp only [Act.put, List.setIfInBounds_toArray, List.set_cons_zero, List.set_cons_succ, i64_w, i32_w]
  rfl
 refine one_ (i := 9) (N := some 62) #[tt_,tt_,tt_,tt_,tt_,tt_,tt_,tt_,tt_,tt_,ff_,ff_] rfl rfl (by kernel_rfl) (by decide) (fun K hK => ?_)
 refine value_ (w1 := ?_) (v := ?_) (by rfl) rfl ?_ ?_
 rotate_left 2
 ·go_simp
  constructor
  ·rfl
  ·rfl
 refine hK.out _ _ ⟨(blk_cell (blk_alloc G7.out _) 0).trans rfl, (blk_cell (blk_alloc G7.out _) 1).trans rfl⟩ (fun hHeld => ?_)
 clear hK K
 refine norm_ (a' := ?_) ?_ ?_
 rotate_left
 ·show Act.put _ (some 62) _ = _
  simp only [Act.put, List.setIfInBounds_toArray, List.set_cons_zero, List.set_cons_succ, i64_w, i32_w]
  rfl
 refine one_ (i := 10) (N := some 63) #[tt_,tt_,tt_,tt_,tt_,tt_,tt_,tt_,tt_,tt_,tt_,ff_] rfl rfl (by kernel_rfl) (by decide) (fun K hK => ?_)
 refine grow_step (by rfl) rfl (.tmp 53) (.tmp 62) 23 5 (.int .u8 0) 1 rfl Try.underlying23 info5 rfl ⟨gM, 0, none⟩ ⟨wd.heap.size, 0, none⟩ 4 2 2 [.int .u8 72, .int .u8 76, .int .u8 68, .int .u8 49] [.int .u8 (sa : Int), .int .u8 (sb : Int)] (by rfl) (by rfl) rfl rfl (by decide) (by decide) (by decide) ?g1 ?g2 ?_
 (case g1 => intro j u hj; rw [add_plain, blk_cell (blk_alloc M7.out _) j, ← hj]; exact arr_list _ j)
 (case g2 => intro j u hj; rw [add_plain, blk_cell (blk_new _ _) j, ← hj]; exact arr_list _ j)
 intro v8 w8 hown hg8
 have P8 := Aside0.mk (blk_below (blk_alloc P7.out _) (grown_none hg8))
 have G8 := Aside0.mk (blk_below (blk_alloc G7.out _) (grown_none hg8))
 have B8 := Aside0.mk (below_step (below_alloc B7.out _) (grown_none hg8))
 have V8 := Aside0.mk hown
 clear hown hg8
 refine hK.out _ _ ⟨(blk_cell G8.out 0).trans rfl, (blk_cell G8.out 1).trans rfl⟩ (fun hHeld => ?_)
 clear hK K
 refine norm_ (a' := ?_) ?_ ?_
 rotate_left
 ·show Act.put _ (some 63) _ = _
  simp only [Act.put, List.setIfInBounds_toArray, List.set_cons_zero, List.set_cons_succ, i64_w, i32_w]
  rfl
 refine pure_ (i := 11) (N := some 9) (v := ?_) (a' := ?_) #[tt_,tt_,tt_,tt_,tt_,tt_,tt_,tt_,tt_,tt_,tt_,tt_] rfl rfl (by kernel_rfl) (fun _ _ _ h => h) (Or.inl ⟨by rfl, ?_⟩) ?_ ?_
 rotate_left
 ·intro w'
  go_simp
  with_reducible rfl
 rotate_left
 ·simp only [Act.put, List.setIfInBounds_toArray, List.set_cons_zero, List.set_cons_succ, i64_w, i32_w]
  rfl
 refine done_ (by kernel_rfl) ?_
 clear e8a e8b P7 G7 M7 B7
 have HO8 : Aside0 (OwnB w8 w.heap.size v8 (outH p S 0)) := ⟨by
  have e : outH p S 0 = [72, 76, 68, 49, sa, sb] := by rw [HSA.out, HSB.out]; rfl
  have hv : (nat .u8).R 5 w8 (wd.alloc (.cells #[.int .u8 (sa : Int), .int .u8 (sb : Int)] 5 (0, 0))).heap.size (fun _ => True) v8 (outH p S 0) := Kd.R_of_own (by rw [e]; exact V8.out) (fun _ _ => trivial)
  exact OwnB.of_R (Kd.R_lower hv (below_size (below_alloc B7w.out _)))⟩
 have E8 : Aside0 (EI w [(gP, #[.int .i64 (p.sp : Int), .slice (some ad) l.length cap], 47), (gG, #[.int .i64 (p.sp : Int), .int .i64 (l.length : Int), .int .i64 (p.w : Int), .int .i64 (p.h : Int), .int .i64 (S : Int)], 105)] w8 v8 (.slice none 0 0) (outH p S 0) []) :=
  ⟨⟨Stay.cons P8.out (by decide) (Stay.cons G8.out (by decide) (Stay.nil _)), B8.out, HO8.out, Kd.R_nil _ _ _ _ _, fun k hk he => by simp [Value.ownBlock] at he⟩⟩
 have q2 := (blk_cell G8.out 2).trans rfl
 have q3 := (blk_cell G8.out 3).trans rfl
 have q4 := (blk_cell G8.out 4).trans rfl
 clear HO8 V8 P8 G8 B8 HSA HSB B7w
 go_wp2
 clear q2 q3 q4
 have E9 : Aside0 (EI w ((w8.heap.size, #[.int .i64 (p.w : Int), .int .i64 (p.h : Int), .int .i64 (S : Int)], 3) :: [(gP, #[.int .i64 (p.sp : Int), .slice (some ad) l.length cap], 47), (gG, #[.int .i64 (p.sp : Int), .int .i64 (l.length : Int), .int .i64 (p.w : Int), .int .i64 (p.h : Int), .int .i64 (S : Int)], 105)]) (w8.alloc (.cells #[.int .i64 (p.w : Int), .int .i64 (p.h : Int), .int .i64 (S : Int)] 3 (0, 0))) v8 (.slice none 0 0) (outH p S 0) []) :=
  ⟨(E8.out.below (below_alloc (Below.refl _ _) _)).newX (Stay.cons (blk_new w8 _) (by decide) (E8.out.below (below_alloc (Below.refl _ _) _)).hX)⟩
 clear E8
 go_loopw [9, 75] (fun v9 v75 W => ∃ (i : Nat) (out : List Nat), i ≤ 3 ∧ v75 = .int .i64 (i : Int) ∧ Aside0 (out = outH p S i) ∧ Aside0 (EI w ((w8.heap.size, #[.int .i64 (p.w : Int), .int .i64 (p.h : Int), .int .i64 (S : Int)], 3) :: [(gP, #[.int .i64 (p.sp : Int), .slice (some ad) l.length cap], 47), (gG, #[.int .i64 (p.sp : Int), .int .i64 (l.length : Int), .int .i64 (p.w : Int), .int .i64 (p.h : Int), .int .i64 (S : Int)], 105)]) W v9 (.slice none 0 0) out [])) (fun _ v _ => 3 - (intOf v).toNat)
 case atStart => exact ⟨0, _, Nat.zero_le _, rfl, ⟨rfl⟩, E9⟩
 case round =>
  clear E9
  obtain ⟨i, out, hi, rfl, HO, HI⟩ := hrel
  by_cases hlt : i < 3
  ·have c1 : decide ((i : Int) < 3) = true := decide_eq_true (by omega)
   have c2 : decide (i < 3) = true := decide_eq_true hlt
   obtain ⟨z, hz⟩ : ∃ z, z = gt [p.w, p.h, S] i := ⟨_, rfl⟩
   have x0 : wr.cell? ⟨w8.heap.size, i, none⟩ = some (.int .i64 (z : Int)) := by
    rw [blk_cell HI.out.hX.hd i, hz]
    match i, hlt with
    | 0, _ => rfl
    | 1, _ => rfl
    | 2, _ => rfl
   have HZ := Aside0.mk hz
   have HLN : Aside0 (out.length < 70368744177664) := ⟨by rw [HO.out, outH_len p S i hi]; omega⟩
   have l0 : ((i : Int) < 3) = True := eq_true (by omega)
   have l1 : (i < 3) = True := eq_true hlt
   clear hz
   go_wp2_with (go_at_call 65; refine (numbered2 z HLN.out w HI.out.hB HI.out.ho).mono ?_; rintro e w2 ⟨v', rfl, hR, hb, hk, hv⟩; have E2 := Aside0.mk (HI.out.out hR hb hk hv); clear hR hb hk hv x0)
   go_roundw
   case measure => simp [intOf]; omega
   case rel => first | exact ⟨i + 1, out ++ beN 2 z, by omega, by go_num, ⟨by rw [HO.out, HZ.out, outH_succ p S i hlt]⟩, E2⟩ | ((repeat apply Exists.intro); exact ⟨⟨i + 1, out ++ beN 2 z, by omega, by go_num, ⟨by rw [HO.out, HZ.out, outH_succ p S i hlt]⟩, E2⟩, rfl⟩)
  ·obtain rfl : i = 3 := by omega
   have c1 : decide (((3 : Nat) : Int) < 3) = false := by decide
   have H0 : Aside0 (EI w [(gP, #[.int .i64 (p.sp : Int), .slice (some ad) l.length cap], 47), (gG, #[.int .i64 (p.sp : Int), .int .i64 (l.length : Int), .int .i64 (p.w : Int), .int .i64 (p.h : Int), .int .i64 (S : Int)], 105)] wr u9 (.slice none 0 0) (p.head S) []) := ⟨by have h := HI.out; rw [HO.out, outH_three] at h; exact h.newX h.hX.tl⟩
   clear HI HO
   obtain ⟨T, hT⟩ : ∃ T, T = tilesN p.w p.h S := ⟨_, rfl⟩
   have HTF := Aside0.mk (tiles_f (p.sp : Int) (l.length : Int) p.w p.h S (by have := HWH.out; omega) (by have := HWH.out; omega) (by have := HWH.out; omega) (by have := HWH.out; omega))
   rw [← hT] at HTF
   have HTT := Aside0.mk hT
   clear hT
   go_wp2_with (first | (go_at_call 45; refine (newTable_calls _).mono ?_; rintro e w2 ⟨gT, rfl, hg, ⟨ct, hct, hcs, hci⟩, hb⟩; have HTS := Aside0.mk hcs; have HTI := Aside0.mk hci; have E2 : Aside0 (EI w [(gT, ct, 130), (gP, #[.int .i64 (p.sp : Int), .slice (some ad) l.length cap], 47), (gG, #[.int .i64 (p.sp : Int), .int .i64 (l.length : Int), .int .i64 (p.w : Int), .int .i64 (p.h : Int), .int .i64 (S : Int)], 105)] w2 u9 (.slice none 0 0) (p.head S) []) := ⟨(H0.out.below hb).newX (Stay.cons hct (by decide) (H0.out.below hb).hX)⟩; clear hg hct hcs hci hb; have g0 := (blk_cell E2.out.hX.tl.tl.hd 0).trans rfl; have g1 := (blk_cell E2.out.hX.tl.tl.hd 1).trans rfl; have g2 := (blk_cell E2.out.hX.tl.tl.hd 2).trans rfl; have g3 := (blk_cell E2.out.hX.tl.tl.hd 3).trans rfl; have g4 := (blk_cell E2.out.hX.tl.tl.hd 4).trans rfl) |
    (go_at_call 66; refine (codec_grid_tiles.calls (p.sp : Int) (l.length : Int) (p.w : Int) (p.h : Int) (S : Int) (T : Int) _ HTF.out).mono ?_; rintro e w3 ⟨rfl, hb⟩; have E3 := Aside0.mk (E2.out.below hb); clear hb g0 g1 g2 g3 g4))
   have E4 : Aside0 (EI w [(gT, ct, 130), (gP, #[.int .i64 (p.sp : Int), .slice (some ad) l.length cap], 47), (gG, #[.int .i64 (p.sp : Int), .int .i64 (l.length : Int), .int .i64 (p.w : Int), .int .i64 (p.h : Int), .int .i64 (S : Int)], 105)] w3 u9 (.slice none 0 0) (p.head S ++ p.idx S (0 * p.ss.length)) (p.parts S (0 * p.ss.length))) := ⟨by
    have h1 : p.idx S (0 * p.ss.length) = [] := by rw [Nat.zero_mul]; rfl
    have h2 : p.parts S (0 * p.ss.length) = [] := by rw [Nat.zero_mul]; rfl
    rw [h1, h2, List.append_nil]; exact E3.out⟩
   clear E2 E3 H0
   go_loopw [9, 12, 86] (fun v9 v12 v86 W => ∃ (t : Nat), t ≤ T ∧ v86 = .int .i64 (t : Int) ∧ Aside0 (EI w [(gT, ct, 130), (gP, #[.int .i64 (p.sp : Int), .slice (some ad) l.length cap], 47), (gG, #[.int .i64 (p.sp : Int), .int .i64 (l.length : Int), .int .i64 (p.w : Int), .int .i64 (p.h : Int), .int .i64 (S : Int)], 105)] W v9 v12 (p.head S ++ p.idx S (t * p.ss.length)) (p.parts S (t * p.ss.length)))) (fun _ _ v _ => T - (intOf v).toNat)
   case atStart => exact ⟨0, Nat.zero_le _, rfl, E4⟩
   case round =>
    clear E4
    obtain ⟨t, ht, rfl, HI⟩ := hrel
    by_cases htl : t < T
    ·have c1 : decide ((t : Int) < (T : Int)) = true := decide_eq_true (by omega)
     have c1' : decide (t < T) = true := decide_eq_true htl
     have y1 := (blk_cell HI.out.hX.tl.hd 1).trans rfl
     have HTL := Aside0.mk htl
     go_wp2
     clear y1 c1 c1' htl
     go_loopw [9, 12, 92] (fun v9 v12 v92 W => ∃ (k : Nat), k ≤ l.length ∧ v92 = .int .i64 (k : Int) ∧ Aside0 (EI w [(gT, ct, 130), (gP, #[.int .i64 (p.sp : Int), .slice (some ad) l.length cap], 47), (gG, #[.int .i64 (p.sp : Int), .int .i64 (l.length : Int), .int .i64 (p.w : Int), .int .i64 (p.h : Int), .int .i64 (S : Int)], 105)] W v9 v12 (p.head S ++ p.idx S (t * p.ss.length + k)) (p.parts S (t * p.ss.length + k)))) (fun _ _ v _ => l.length - (intOf v).toNat)
     case atStart => exact ⟨0, Nat.zero_le _, rfl, HI⟩
     case round =>
      clear HI
      obtain ⟨k, hk, rfl, HI⟩ := hrel
      by_cases hkl : k < l.length
      ·have c2 : decide ((k : Int) < (l.length : Int)) = true := decide_eq_true (by omega)
       have hl4 : l.length ≤ 4 := by rw [HK.out]; exact HOK.out.2.2.1
       have c2' : decide (k < l.length) = true := decide_eq_true hkl
       have l0 : ((k : Int) < (l.length : Int)) = True := eq_true (by omega)
       have l1 : (k < l.length) = True := eq_true hkl
       obtain ⟨s, hs⟩ : ∃ s, s = p.ss.getD k [] := ⟨_, rfl⟩
       have hk' : k < p.ss.length := by have := HK.out; omega
       have HSOK : Aside0 (Pl.mk p.w p.h s).ok := ⟨by rw [hs]; exact HOK.out.2.2.2.2 k hk'⟩
       obtain ⟨ad', A2, cA, ead, z0, z1, z2, z3, z4⟩ := at_T31 HC.out (k : Int) (by omega) (by omega)
       cases ead
       have esa : rd_T31 l (k : Int) = ⟨(p.w : Int), (p.h : Int), ints s⟩ := by rw [HL.out, hs]; exact p.s31s_at hk'
       rw [esa] at z0 z1 z2 z3 z4
       simp only [ints_length, Int.toNat_natCast] at z0 z1 z2 z3 z4
       have HCS : Aside0 ((nat .u32).C w A2 s.length s) := ⟨C_nats z4⟩
       have HCC : Aside0 (s.length ≤ cA) := ⟨z3⟩
       have x0 := (HI.out.hB.cell (World.block_lt_of_cell? w _ z0)).trans z0
       have x1 := (HI.out.hB.cell (World.block_lt_of_cell? w _ z1)).trans z1
       have x2 := (HI.out.hB.cell (World.block_lt_of_cell? w _ z2)).trans z2
       clear z0 z1 z2 z3 z4 esa
       obtain ⟨rx0, hr0⟩ : ∃ r, r = tX p.w S t := ⟨_, rfl⟩
       obtain ⟨ry0, hr1⟩ : ∃ r, r = tY p.w S t := ⟨_, rfl⟩
       obtain ⟨rx1, hr2⟩ : ∃ r, r = min (rx0 + S) p.w := ⟨_, rfl⟩
       obtain ⟨ry1, hr3⟩ : ∃ r, r = min (ry0 + S) p.h := ⟨_, rfl⟩
       have HW0 := HWH.out
       have hw1 : 0 < p.w := HSOK.out.1
       have hh1 : 0 < p.h := HSOK.out.2.1
       have hT2 : T ≤ 65536 := by rw [HTT.out]; exact tilesN_le HSOK.out.2.2.2.2.1
       have HRECT : Aside0 (codec_grid_rect.f (p.sp : Int) (l.length : Int) (p.w : Int) (p.h : Int) (S : Int) (t : Int) = some ((rx0 : Int), (ry0 : Int), (rx1 : Int), (ry1 : Int))) := ⟨by
        rw [rect_f (p.sp : Int) (l.length : Int) p.w p.h S t (by omega) hw1 (by omega) (by omega) (by omega) (by omega), hr0, hr1] ; rw [hr2, hr3, hr0, hr1]⟩
       have hx0 : rx0 < p.w := by rw [hr0]; exact tX_lt t hw1 (by omega)
       have hy0 : ry0 < p.h := by rw [hr1]; exact tY_lt hh1 (by omega) (by rw [← HTT.out]; exact HTL.out)
       have HR4 : Aside0 (rx0 < rx1 ∧ rx1 ≤ p.w ∧ ry0 < ry1 ∧ ry1 ≤ p.h) := ⟨by omega⟩
       obtain ⟨dx, hdx⟩ : ∃ d, d = rx1 - rx0 := ⟨_, rfl⟩
       obtain ⟨dy, hdy⟩ : ∃ d, d = ry1 - ry0 := ⟨_, rfl⟩
       have HDX := Aside0.mk hdx
       have HDY := Aside0.mk hdy
       obtain ⟨zs, hzs⟩ : ∃ zs, zs = cropN s p.w rx0 ry0 rx1 ry1 := ⟨_, rfl⟩
       have HZS := Aside0.mk hzs
       have HZOK : Aside0 (Pl.mk dx dy zs).ok := ⟨by rw [hdx, hdy, hzs]; exact crop_ok (p := ⟨p.w, p.h, s⟩) HSOK.out HR4.out.1 HR4.out.2.1 HR4.out.2.2.1 HR4.out.2.2.2⟩
       obtain ⟨rs, hrs⟩ : ∃ rs, rs = restsN zs dx := ⟨_, rfl⟩
       have HRS := Aside0.mk (show codec_Rests.f (zs.length + 2) (dx : Int) (dy : Int) (ints zs) = some (ints rs, 0) by rw [hrs]; exact Rests_f HZOK.out (zs.length + 1) (Nat.le_refl _))
       have HRL : Aside0 (rs.length ≤ 65536) := ⟨by rw [hrs, restsN_length]; have h := HZOK.out; exact Nat.le_trans (Nat.le_of_eq h.2.2.2.2.2.1) h.2.2.2.2.1⟩
       have HR32 : Aside0 (∀ i, gt rs i < 4294967296) := ⟨by rw [hrs]; exact restsN_lt _ _⟩
       obtain ⟨bs, hbs⟩ : ∃ bs, bs = packed rs := ⟨_, rfl⟩
       have HBS := Aside0.mk hbs
       have hbody : bs = p.body S (t * p.ss.length + k) := by
        rw [p.body_at S t k hk', hbs, hrs, hzs, hdx, hs, hr3, hr2, hr1, hr0]; rfl
       obtain ⟨n, hn⟩ : ∃ n, n = t * p.ss.length + k := ⟨_, rfl⟩
       rw [← hn] at hbody HI
       have hn2 : n ≤ 262144 := by
        have h1 : t * p.ss.length + k < p.ss.length * T := idx_lt rfl HTL.out hk'
        have h2 : p.ss.length * T ≤ 4 * 65536 := Nat.mul_le_mul HOK.out.2.2.1 hT2
        omega
       have HBL : Aside0 (bs.length ≤ 458753) := ⟨by rw [hbody]; exact Pic.body_len HOK.out S n⟩
       have HPL : Aside0 ((p.parts S n).length ≤ 120260395008) := ⟨by have := Pic.parts_len HOK.out S n; omega⟩
       have HOL : Aside0 ((p.head S ++ p.idx S n).length < 70368744177664) := ⟨by rw [List.length_append, p.head_len, p.idx_len]; omega⟩
       have HB8 : Aside0 (∀ i, gt bs i < 256) := ⟨by rw [hbs]; exact packed_lt rs⟩
       have HBO := Aside0.mk hbody
       have HN := Aside0.mk hn
       have HK' := Aside0.mk hk'
       clear hr0 hr1 hr2 hr3 hx0 hy0 hdx hdy hzs hrs hbs hbody hn hn2 hs hw1 hh1 hT2 HW0 hk'
       obtain ⟨out, hout⟩ : ∃ out, out = p.head S ++ p.idx S n := ⟨_, rfl⟩
       obtain ⟨parts, hparts⟩ : ∃ parts, parts = p.parts S n := ⟨_, rfl⟩
       rw [← hout] at HI HOL
       rw [← hparts] at HI HPL
       have HOUT := Aside0.mk hout
       have HPARTS := Aside0.mk hparts
       clear hout hparts
       go_wp2_with (((with_reducible refine gate_dst (N := 16) rfl ?_); refine box_event ?hg (N := 16) ?hd (cs := #[.int .i64 0, .int .i64 0, .slice none 0 0]) (t := 31) ?hr ?_; (case hd => rfl); (case hg => rfl); (case hr => first | (go_simp; done) | (go_simp; rfl)); intro gL hg_ w21 hm_ hb_; have E21 := Aside0.mk (HI.out.below hb_); have L21 := Aside0.mk (hm_); have GL := Aside0.mk (show w.heap.size ≤ gL by rw [hg_]; exact below_size HI.out.hB); have q0 := (blk_cell L21.out 0).trans rfl; have q1 := (blk_cell L21.out 1).trans rfl; have q2 := (blk_cell L21.out 2).trans rfl; have f0 := blk_frozen L21.out 0; have f1 := blk_frozen L21.out 1; have f2 := blk_frozen L21.out 2; clear hm_ hb_ hg_))
       obtain ⟨w22, hw22⟩ : ∃ w22, w22 = ((w21.setCell ⟨gL, 0, none⟩ (.int .i64 (p.w : Int))).setCell ⟨gL, 1, none⟩ (.int .i64 (p.h : Int))).setCell ⟨gL, 2, none⟩ (.slice A2 s.length cA) := ⟨_, rfl⟩
       rw [← hw22]
       obtain ⟨hL22, hst22, hbl22⟩ := put3 L21.out hw22
       have L_ := Aside0.mk (blk_drew hL22)
       have E_ : Aside0 (EI w [(gT, ct, 130), (gP, #[.int .i64 (p.sp : Int), .slice (some ad) l.length cap], 47), (gG, #[.int .i64 (p.sp : Int), .int .i64 (l.length : Int), .int .i64 (p.w : Int), .int .i64 (p.h : Int), .int .i64 (S : Int)], 105)] w22.drew u9 u12 out parts) := ⟨(E21.out.store L21.out (by decide) rfl hst22 (hbl22 _ GL.out)).below (below_drew1 (Below.refl _ _))⟩
       clear hw22 hL22 hst22 hbl22 E21 L21 q0 q1 q2 f0 f1 f2 HI
       refine start_ (n := 11) (S := fun w' => w'.cell? ⟨gL, 0, none⟩ = some (.int .i64 (p.w : Int)) ∧ w'.cell? ⟨gL, 1, none⟩ = some (.int .i64 (p.h : Int)) ∧ w'.cell? ⟨gL, 2, none⟩ = some (.slice A2 s.length cA) ∧ w'.cell? ⟨gG, 0, none⟩ = some (.int .i64 (p.sp : Int)) ∧ w'.cell? ⟨gG, 1, none⟩ = some (.int .i64 (l.length : Int)) ∧ w'.cell? ⟨gG, 2, none⟩ = some (.int .i64 (p.w : Int)) ∧ w'.cell? ⟨gG, 3, none⟩ = some (.int .i64 (p.h : Int)) ∧ w'.cell? ⟨gG, 4, none⟩ = some (.int .i64 (S : Int))) (ds := [9]) #[ff_,ff_,ff_,ff_,ff_,ff_,ff_,ff_,ff_,ff_,ff_] (by kernel_rfl) rfl rfl ⟨(blk_cell L_.out 0).trans rfl, (blk_cell L_.out 1).trans rfl, (blk_cell L_.out 2).trans rfl, (blk_cell E_.out.hX.tl.tl.hd 0).trans rfl, (blk_cell E_.out.hX.tl.tl.hd 1).trans rfl, (blk_cell E_.out.hX.tl.tl.hd 2).trans rfl, (blk_cell E_.out.hX.tl.tl.hd 3).trans rfl, (blk_cell E_.out.hX.tl.tl.hd 4).trans rfl⟩ (fun hHeld => ?_)
       generalize w22.drew = wd at *
       refine pure_ (i := 2) (N := some 99) (v := ?_) (a' := ?_) #[ff_,ff_,tt_,ff_,ff_,ff_,ff_,ff_,ff_,ff_,ff_] rfl rfl (by kernel_rfl) (fun _ _ _ h => h) (Or.inl ⟨by rfl, ?_⟩) ?_ ?_
       rotate_left
       ·intro w'
        go_simp
        with_reducible rfl
       rotate_left
       ·simp only [Act.put, List.setIfInBounds_toArray, List.set_cons_zero, List.set_cons_succ, i64_w, i32_w]
        rfl
       refine take_ (i := 0) (N := some 97) (v := ?_) (a' := ?_) #[tt_,ff_,tt_,ff_,ff_,ff_,ff_,ff_,ff_,ff_,ff_] rfl rfl (by kernel_rfl) (fun _ _ _ h => h) (Or.inl ⟨by rfl, ?_⟩) hHeld ?_ ?_
       rotate_left
       ·rintro w' ⟨s0, s1, s2, s3, s4, s5, s6, s7⟩
        go_simp
        with_reducible rfl
       rotate_left
       ·simp only [Act.put, List.setIfInBounds_toArray, List.set_cons_zero, List.set_cons_succ, i64_w, i32_w]
        rfl
       refine take_ (i := 1) (N := some 98) (v := ?_) (a' := ?_) #[tt_,tt_,tt_,ff_,ff_,ff_,ff_,ff_,ff_,ff_,ff_] rfl rfl (by kernel_rfl) (fun _ _ _ h => h) (Or.inl ⟨by rfl, ?_⟩) hHeld ?_ ?_
       rotate_left
       ·rintro w' ⟨s0, s1, s2, s3, s4, s5, s6, s7⟩
        go_simp
        with_reducible rfl
       rotate_left
       ·simp only [Act.put, List.setIfInBounds_toArray, List.set_cons_zero, List.set_cons_succ, i64_w, i32_w]
        rfl
       refine join_ (σ := Value × Nat) 2 #[tt_,tt_,tt_,tt_,tt_,tt_,tt_,tt_,tt_,ff_,ff_] (fun q_ => [(100, .agg #[.int .i64 (rx0 : Int), .int .i64 (ry0 : Int), .int .i64 (rx1 : Int), .int .i64 (ry1 : Int)]), (101, .tuple #[.agg #[.int .i64 (dx : Int), .int .i64 (dy : Int), q_.1], .int .i64 0]), (96, .tuple #[.agg #[.int .i64 (dx : Int), .int .i64 (dy : Int), q_.1], .int .i64 0]), (102, .agg #[.int .i64 (dx : Int), .int .i64 (dy : Int), q_.1]), (103, .int .i64 0), (17, .pointer (some ⟨q_.2, 0, none⟩))]) (fun q_ w' => EI w [(gT, ct, 130), (gP, #[.int .i64 (p.sp : Int), .slice (some ad) l.length cap], 47), (gG, #[.int .i64 (p.sp : Int), .int .i64 (l.length : Int), .int .i64 (p.w : Int), .int .i64 (p.h : Int), .int .i64 (S : Int)], 105)] w' u9 u12 out parts ∧ w'.heap[gL]? = some (.cells #[.int .i64 (p.w : Int), .int .i64 (p.h : Int), .slice A2 s.length cA] 31 (0, 0)) ∧ (nat .u32).R 24 w' w.heap.size (fun _ => True) q_.1 zs ∧ w'.heap[q_.2]? = some (.cells #[.int .i64 0, .int .i64 0, .slice none 0 0] 31 (0, 0)) ∧ w.heap.size ≤ q_.2) ?_ ?_
       rotate_left
       ·intro hCont
        refine two_ (i := 3) (j := 8) (Ni := some 100) (Nj := some 17) #[tt_,tt_,tt_,tt_,ff_,ff_,ff_,ff_,ff_,ff_,ff_] #[tt_,tt_,tt_,ff_,ff_,ff_,ff_,ff_,tt_,ff_,ff_] rfl rfl rfl rfl (by kernel_rfl) (by decide) (by decide) (fun K hK => ?_) (fun K hK => ?_)
        ·skip
         refine goes_ Try.func68 (by kernel_rfl) rfl #[.agg #[.int .i64 (p.sp : Int), .int .i64 (l.length : Int), .int .i64 (p.w : Int), .int .i64 (p.h : Int), .int .i64 (S : Int)], .int .i64 (t : Int)] (by rfl) rfl rfl (by (try simp only [List.map_toArray, List.map_cons, List.map_nil]); rfl) ?_
         with_reducible refine (codec_grid_rect.calls (p.sp : Int) (l.length : Int) (p.w : Int) (p.h : Int) (S : Int) (t : Int) (rx0 : Int) (ry0 : Int) (rx1 : Int) (ry1 : Int) _ HRECT.out).mono ?_
         rintro e w_3 ⟨rfl, hb⟩
         refine ⟨_, rfl, ?_⟩
         have E_3 := Aside0.mk (E_.out.below (hb))
         have L_3 := Aside0.mk (blk_below L_.out (hb))
         clear hb
         refine hK.out _ _ ⟨(blk_cell L_3.out 0).trans rfl, (blk_cell L_3.out 1).trans rfl, (blk_cell L_3.out 2).trans rfl, (blk_cell E_3.out.hX.tl.tl.hd 0).trans rfl, (blk_cell E_3.out.hX.tl.tl.hd 1).trans rfl, (blk_cell E_3.out.hX.tl.tl.hd 2).trans rfl, (blk_cell E_3.out.hX.tl.tl.hd 3).trans rfl, (blk_cell E_3.out.hX.tl.tl.hd 4).trans rfl⟩ (fun hHeld => ?_)
         clear hK K
         refine norm_ (a' := ?_) ?_ ?_
         rotate_left
         ·show Act.put _ (some 100) _ = _
          simp only [Act.put, List.setIfInBounds_toArray, List.set_cons_zero, List.set_cons_succ, i64_w, i32_w]
          rfl
         refine two_ (i := 4) (j := 8) (Ni := some 101) (Nj := some 17) #[tt_,tt_,tt_,tt_,tt_,ff_,ff_,ff_,ff_,ff_,ff_] #[tt_,tt_,tt_,tt_,ff_,ff_,ff_,ff_,tt_,ff_,ff_] rfl rfl rfl rfl (by kernel_rfl) (by decide) (by decide) (fun K hK => ?_) (fun K hK => ?_)
         ·skip
          refine goes_ Try.func67 (by kernel_rfl) rfl #[.agg #[.int .i64 (p.w : Int), .int .i64 (p.h : Int), .slice A2 s.length cA], .agg #[.int .i64 (rx0 : Int), .int .i64 (ry0 : Int), .int .i64 (rx1 : Int), .int .i64 (ry1 : Int)]] (by rfl) rfl rfl (by (try simp only [List.map_toArray, List.map_cons, List.map_nil]); rfl) ?_
          with_reducible refine (Crop_calls ⟨p.w, p.h, s⟩ rx0 ry0 rx1 ry1 cA A2 _ HSOK.out HR4.out.1 HR4.out.2.1 HR4.out.2.2.1 HR4.out.2.2.2 (Kd.C_below HCS.out E_3.out.hB) HCC.out).mono ?_
          rintro e w_3_4 ⟨v1, rfl, hR, hb⟩
          refine ⟨_, rfl, ?_⟩
          rw [← HZS.out] at hR
          try simp only at hR
          rw [← HDX.out, ← HDY.out]
          have E_3_4 := Aside0.mk (E_3.out.below (hb))
          have L_3_4 := Aside0.mk (blk_below L_3.out (hb))
          have V_3_4 := Aside0.mk (Kd.R_lower hR E_3.out.hB.size)
          clear hb hR
          refine hK.out _ _ ⟨(blk_cell L_3_4.out 0).trans rfl, (blk_cell L_3_4.out 1).trans rfl, (blk_cell L_3_4.out 2).trans rfl, (blk_cell E_3_4.out.hX.tl.tl.hd 0).trans rfl, (blk_cell E_3_4.out.hX.tl.tl.hd 1).trans rfl, (blk_cell E_3_4.out.hX.tl.tl.hd 2).trans rfl, (blk_cell E_3_4.out.hX.tl.tl.hd 3).trans rfl, (blk_cell E_3_4.out.hX.tl.tl.hd 4).trans rfl⟩ (fun hHeld => ?_)
          clear hK K
          refine norm_ (a' := ?_) ?_ ?_
          rotate_left
          ·show Act.put _ (some 101) _ = _
           simp only [Act.put, List.setIfInBounds_toArray, List.set_cons_zero, List.set_cons_succ, i64_w, i32_w]
           rfl
          refine pure_ (i := 5) (N := some 96) (v := ?_) (a' := ?_) #[tt_,tt_,tt_,tt_,tt_,tt_,ff_,ff_,ff_,ff_,ff_] rfl rfl (by kernel_rfl) (fun _ _ _ h => h) (Or.inl ⟨by rfl, ?_⟩) ?_ ?_
          rotate_left
          ·intro w'
           go_simp
           with_reducible rfl
          rotate_left
          ·simp only [Act.put, List.setIfInBounds_toArray, List.set_cons_zero, List.set_cons_succ, i64_w, i32_w]
           rfl
          refine pure_ (i := 6) (N := some 102) (v := ?_) (a' := ?_) #[tt_,tt_,tt_,tt_,tt_,tt_,tt_,ff_,ff_,ff_,ff_] rfl rfl (by kernel_rfl) (fun _ _ _ h => h) (Or.inl ⟨by rfl, ?_⟩) ?_ ?_
          rotate_left
          ·intro w'
           go_simp
           with_reducible rfl
          rotate_left
          ·simp only [Act.put, List.setIfInBounds_toArray, List.set_cons_zero, List.set_cons_succ, i64_w, i32_w]
           rfl
          refine pure_ (i := 7) (N := some 103) (v := ?_) (a' := ?_) #[tt_,tt_,tt_,tt_,tt_,tt_,tt_,tt_,ff_,ff_,ff_] rfl rfl (by kernel_rfl) (fun _ _ _ h => h) (Or.inl ⟨by rfl, ?_⟩) ?_ ?_
          rotate_left
          ·intro w'
           go_simp
           with_reducible rfl
          rotate_left
          ·simp only [Act.put, List.setIfInBounds_toArray, List.set_cons_zero, List.set_cons_succ, i64_w, i32_w]
           rfl
          refine one_ (i := 8) (N := some 17) #[tt_,tt_,tt_,tt_,tt_,tt_,tt_,tt_,tt_,ff_,ff_] rfl rfl (by kernel_rfl) (by decide) (fun K hK => ?_)
          refine alloc_step (cs := #[.int .i64 0, .int .i64 0, .slice none 0 0]) (t := 31) (by rfl) rfl (by first | (go_simp; done) | (go_simp; rfl)) ?_
          intro gQ hgQ
          have E_3_4_8 := Aside0.mk (E_3_4.out.below (below_alloc (Below.refl _ _) (.cells #[.int .i64 0, .int .i64 0, .slice none 0 0] 31 (0, 0))))
          have L_3_4_8 := Aside0.mk (blk_below L_3_4.out (below_alloc (Below.refl _ _) (.cells #[.int .i64 0, .int .i64 0, .slice none 0 0] 31 (0, 0))))
          have V_3_4_8 := Aside0.mk (Kd.R_below V_3_4.out (below_alloc (Below.refl _ _) (.cells #[.int .i64 0, .int .i64 0, .slice none 0 0] 31 (0, 0))))
          have Q_3_4_8 := Aside0.mk (blk_new w_3_4 (.cells #[.int .i64 0, .int .i64 0, .slice none 0 0] 31 (0, 0)))
          rw [← hgQ] at Q_3_4_8
          have GQ := Aside0.mk (show w.heap.size ≤ gQ by rw [hgQ]; exact below_size E_3_4.out.hB)
          clear hgQ
          generalize w_3_4.alloc (.cells #[.int .i64 0, .int .i64 0, .slice none 0 0] 31 (0, 0)) = w_3_4_8 at *
          refine hK.out _ _ ⟨(blk_cell L_3_4_8.out 0).trans rfl, (blk_cell L_3_4_8.out 1).trans rfl, (blk_cell L_3_4_8.out 2).trans rfl, (blk_cell E_3_4_8.out.hX.tl.tl.hd 0).trans rfl, (blk_cell E_3_4_8.out.hX.tl.tl.hd 1).trans rfl, (blk_cell E_3_4_8.out.hX.tl.tl.hd 2).trans rfl, (blk_cell E_3_4_8.out.hX.tl.tl.hd 3).trans rfl, (blk_cell E_3_4_8.out.hX.tl.tl.hd 4).trans rfl⟩ (fun hHeld => ?_)
          clear hK K
          refine norm_ (a' := ?_) ?_ ?_
          rotate_left
          ·show Act.put _ (some 17) _ = _
           simp only [Act.put, List.setIfInBounds_toArray, List.set_cons_zero, List.set_cons_succ, i64_w, i32_w]
           rfl
          exact norm_ (by rfl) (hCont (v1, gQ) _ ⟨E_3_4_8.out, L_3_4_8.out, V_3_4_8.out, Q_3_4_8.out, GQ.out⟩)
         ·skip
          refine alloc_step (cs := #[.int .i64 0, .int .i64 0, .slice none 0 0]) (t := 31) (by rfl) rfl (by first | (go_simp; done) | (go_simp; rfl)) ?_
          intro gQ hgQ
          have E_3_8 := Aside0.mk (E_3.out.below (below_alloc (Below.refl _ _) (.cells #[.int .i64 0, .int .i64 0, .slice none 0 0] 31 (0, 0))))
          have L_3_8 := Aside0.mk (blk_below L_3.out (below_alloc (Below.refl _ _) (.cells #[.int .i64 0, .int .i64 0, .slice none 0 0] 31 (0, 0))))
          have Q_3_8 := Aside0.mk (blk_new w_3 (.cells #[.int .i64 0, .int .i64 0, .slice none 0 0] 31 (0, 0)))
          rw [← hgQ] at Q_3_8
          have GQ := Aside0.mk (show w.heap.size ≤ gQ by rw [hgQ]; exact below_size E_3.out.hB)
          clear hgQ
          generalize w_3.alloc (.cells #[.int .i64 0, .int .i64 0, .slice none 0 0] 31 (0, 0)) = w_3_8 at *
          refine hK.out _ _ ⟨(blk_cell L_3_8.out 0).trans rfl, (blk_cell L_3_8.out 1).trans rfl, (blk_cell L_3_8.out 2).trans rfl, (blk_cell E_3_8.out.hX.tl.tl.hd 0).trans rfl, (blk_cell E_3_8.out.hX.tl.tl.hd 1).trans rfl, (blk_cell E_3_8.out.hX.tl.tl.hd 2).trans rfl, (blk_cell E_3_8.out.hX.tl.tl.hd 3).trans rfl, (blk_cell E_3_8.out.hX.tl.tl.hd 4).trans rfl⟩ (fun hHeld => ?_)
          clear hK K
          refine norm_ (a' := ?_) ?_ ?_
          rotate_left
          ·show Act.put _ (some 17) _ = _
           simp only [Act.put, List.setIfInBounds_toArray, List.set_cons_zero, List.set_cons_succ, i64_w, i32_w]
           rfl
          refine one_ (i := 4) (N := some 101) #[tt_,tt_,tt_,tt_,tt_,ff_,ff_,ff_,tt_,ff_,ff_] rfl rfl (by kernel_rfl) (by decide) (fun K hK => ?_)
          refine goes_ Try.func67 (by kernel_rfl) rfl #[.agg #[.int .i64 (p.w : Int), .int .i64 (p.h : Int), .slice A2 s.length cA], .agg #[.int .i64 (rx0 : Int), .int .i64 (ry0 : Int), .int .i64 (rx1 : Int), .int .i64 (ry1 : Int)]] (by rfl) rfl rfl (by (try simp only [List.map_toArray, List.map_cons, List.map_nil]); rfl) ?_
          with_reducible refine (Crop_calls ⟨p.w, p.h, s⟩ rx0 ry0 rx1 ry1 cA A2 _ HSOK.out HR4.out.1 HR4.out.2.1 HR4.out.2.2.1 HR4.out.2.2.2 (Kd.C_below HCS.out E_3_8.out.hB) HCC.out).mono ?_
          rintro e w_3_8_4 ⟨v1, rfl, hR, hb⟩
          refine ⟨_, rfl, ?_⟩
          rw [← HZS.out] at hR
          try simp only at hR
          rw [← HDX.out, ← HDY.out]
          have E_3_8_4 := Aside0.mk (E_3_8.out.below (hb))
          have L_3_8_4 := Aside0.mk (blk_below L_3_8.out (hb))
          have Q_3_8_4 := Aside0.mk (blk_below Q_3_8.out (hb))
          have V_3_8_4 := Aside0.mk (Kd.R_lower hR E_3_8.out.hB.size)
          clear hb hR
          refine hK.out _ _ ⟨(blk_cell L_3_8_4.out 0).trans rfl, (blk_cell L_3_8_4.out 1).trans rfl, (blk_cell L_3_8_4.out 2).trans rfl, (blk_cell E_3_8_4.out.hX.tl.tl.hd 0).trans rfl, (blk_cell E_3_8_4.out.hX.tl.tl.hd 1).trans rfl, (blk_cell E_3_8_4.out.hX.tl.tl.hd 2).trans rfl, (blk_cell E_3_8_4.out.hX.tl.tl.hd 3).trans rfl, (blk_cell E_3_8_4.out.hX.tl.tl.hd 4).trans rfl⟩ (fun hHeld => ?_)
          clear hK K
          refine norm_ (a' := ?_) ?_ ?_
          rotate_left
          ·show Act.put _ (some 101) _ = _
           simp only [Act.put, List.setIfInBounds_toArray, List.set_cons_zero, List.set_cons_succ, i64_w, i32_w]
           rfl
          refine pure_ (i := 5) (N := some 96) (v := ?_) (a' := ?_) #[tt_,tt_,tt_,tt_,tt_,tt_,ff_,ff_,tt_,ff_,ff_] rfl rfl (by kernel_rfl) (fun _ _ _ h => h) (Or.inl ⟨by rfl, ?_⟩) ?_ ?_
          rotate_left
          ·intro w'
           go_simp
           with_reducible rfl
          rotate_left
          ·simp only [Act.put, List.setIfInBounds_toArray, List.set_cons_zero, List.set_cons_succ, i64_w, i32_w]
           rfl
          refine pure_ (i := 6) (N := some 102) (v := ?_) (a' := ?_) #[tt_,tt_,tt_,tt_,tt_,tt_,tt_,ff_,tt_,ff_,ff_] rfl rfl (by kernel_rfl) (fun _ _ _ h => h) (Or.inl ⟨by rfl, ?_⟩) ?_ ?_
          rotate_left
          ·intro w'
           go_simp
           with_reducible rfl
          rotate_left
          ·simp only [Act.put, List.setIfInBounds_toArray, List.set_cons_zero, List.set_cons_succ, i64_w, i32_w]
           rfl
          refine pure_ (i := 7) (N := some 103) (v := ?_) (a' := ?_) #[tt_,tt_,tt_,tt_,tt_,tt_,tt_,tt_,tt_,ff_,ff_] rfl rfl (by kernel_rfl) (fun _ _ _ h => h) (Or.inl ⟨by rfl, ?_⟩) ?_ ?_
          rotate_left
          ·intro w'
           go_simp
           with_reducible rfl
          rotate_left
          ·simp only [Act.put, List.setIfInBounds_toArray, List.set_cons_zero, List.set_cons_succ, i64_w, i32_w]
           rfl
          exact norm_ (by rfl) (hCont (v1, gQ) _ ⟨E_3_8_4.out, L_3_8_4.out, V_3_8_4.out, Q_3_8_4.out, GQ.out⟩)
        ·skip
         refine alloc_step (cs := #[.int .i64 0, .int .i64 0, .slice none 0 0]) (t := 31) (by rfl) rfl (by first | (go_simp; done) | (go_simp; rfl)) ?_
         intro gQ hgQ
         have E_8 := Aside0.mk (E_.out.below (below_alloc (Below.refl _ _) (.cells #[.int .i64 0, .int .i64 0, .slice none 0 0] 31 (0, 0))))
         have L_8 := Aside0.mk (blk_below L_.out (below_alloc (Below.refl _ _) (.cells #[.int .i64 0, .int .i64 0, .slice none 0 0] 31 (0, 0))))
         have Q_8 := Aside0.mk (blk_new wd (.cells #[.int .i64 0, .int .i64 0, .slice none 0 0] 31 (0, 0)))
         rw [← hgQ] at Q_8
         have GQ := Aside0.mk (show w.heap.size ≤ gQ by rw [hgQ]; exact below_size E_.out.hB)
         clear hgQ
         generalize wd.alloc (.cells #[.int .i64 0, .int .i64 0, .slice none 0 0] 31 (0, 0)) = w_8 at *
         refine hK.out _ _ ⟨(blk_cell L_8.out 0).trans rfl, (blk_cell L_8.out 1).trans rfl, (blk_cell L_8.out 2).trans rfl, (blk_cell E_8.out.hX.tl.tl.hd 0).trans rfl, (blk_cell E_8.out.hX.tl.tl.hd 1).trans rfl, (blk_cell E_8.out.hX.tl.tl.hd 2).trans rfl, (blk_cell E_8.out.hX.tl.tl.hd 3).trans rfl, (blk_cell E_8.out.hX.tl.tl.hd 4).trans rfl⟩ (fun hHeld => ?_)
         clear hK K
         refine norm_ (a' := ?_) ?_ ?_
         rotate_left
         ·show Act.put _ (some 17) _ = _
          simp only [Act.put, List.setIfInBounds_toArray, List.set_cons_zero, List.set_cons_succ, i64_w, i32_w]
          rfl
         refine one_ (i := 3) (N := some 100) #[tt_,tt_,tt_,tt_,ff_,ff_,ff_,ff_,tt_,ff_,ff_] rfl rfl (by kernel_rfl) (by decide) (fun K hK => ?_)
         refine goes_ Try.func68 (by kernel_rfl) rfl #[.agg #[.int .i64 (p.sp : Int), .int .i64 (l.length : Int), .int .i64 (p.w : Int), .int .i64 (p.h : Int), .int .i64 (S : Int)], .int .i64 (t : Int)] (by rfl) rfl rfl (by (try simp only [List.map_toArray, List.map_cons, List.map_nil]); rfl) ?_
         with_reducible refine (codec_grid_rect.calls (p.sp : Int) (l.length : Int) (p.w : Int) (p.h : Int) (S : Int) (t : Int) (rx0 : Int) (ry0 : Int) (rx1 : Int) (ry1 : Int) _ HRECT.out).mono ?_
         rintro e w_8_3 ⟨rfl, hb⟩
         refine ⟨_, rfl, ?_⟩
         have E_8_3 := Aside0.mk (E_8.out.below (hb))
         have L_8_3 := Aside0.mk (blk_below L_8.out (hb))
         have Q_8_3 := Aside0.mk (blk_below Q_8.out (hb))
         clear hb
         refine hK.out _ _ ⟨(blk_cell L_8_3.out 0).trans rfl, (blk_cell L_8_3.out 1).trans rfl, (blk_cell L_8_3.out 2).trans rfl, (blk_cell E_8_3.out.hX.tl.tl.hd 0).trans rfl, (blk_cell E_8_3.out.hX.tl.tl.hd 1).trans rfl, (blk_cell E_8_3.out.hX.tl.tl.hd 2).trans rfl, (blk_cell E_8_3.out.hX.tl.tl.hd 3).trans rfl, (blk_cell E_8_3.out.hX.tl.tl.hd 4).trans rfl⟩ (fun hHeld => ?_)
         clear hK K
         refine norm_ (a' := ?_) ?_ ?_
         rotate_left
         ·show Act.put _ (some 100) _ = _
          simp only [Act.put, List.setIfInBounds_toArray, List.set_cons_zero, List.set_cons_succ, i64_w, i32_w]
          rfl
         refine one_ (i := 4) (N := some 101) #[tt_,tt_,tt_,tt_,tt_,ff_,ff_,ff_,tt_,ff_,ff_] rfl rfl (by kernel_rfl) (by decide) (fun K hK => ?_)
         refine goes_ Try.func67 (by kernel_rfl) rfl #[.agg #[.int .i64 (p.w : Int), .int .i64 (p.h : Int), .slice A2 s.length cA], .agg #[.int .i64 (rx0 : Int), .int .i64 (ry0 : Int), .int .i64 (rx1 : Int), .int .i64 (ry1 : Int)]] (by rfl) rfl rfl (by (try simp only [List.map_toArray, List.map_cons, List.map_nil]); rfl) ?_
         with_reducible refine (Crop_calls ⟨p.w, p.h, s⟩ rx0 ry0 rx1 ry1 cA A2 _ HSOK.out HR4.out.1 HR4.out.2.1 HR4.out.2.2.1 HR4.out.2.2.2 (Kd.C_below HCS.out E_8_3.out.hB) HCC.out).mono ?_
         rintro e w_8_3_4 ⟨v1, rfl, hR, hb⟩
         refine ⟨_, rfl, ?_⟩
         rw [← HZS.out] at hR
         try simp only at hR
         rw [← HDX.out, ← HDY.out]
         have E_8_3_4 := Aside0.mk (E_8_3.out.below (hb))
         have L_8_3_4 := Aside0.mk (blk_below L_8_3.out (hb))
         have Q_8_3_4 := Aside0.mk (blk_below Q_8_3.out (hb))
         have V_8_3_4 := Aside0.mk (Kd.R_lower hR E_8_3.out.hB.size)
         clear hb hR
         refine hK.out _ _ ⟨(blk_cell L_8_3_4.out 0).trans rfl, (blk_cell L_8_3_4.out 1).trans rfl, (blk_cell L_8_3_4.out 2).trans rfl, (blk_cell E_8_3_4.out.hX.tl.tl.hd 0).trans rfl, (blk_cell E_8_3_4.out.hX.tl.tl.hd 1).trans rfl, (blk_cell E_8_3_4.out.hX.tl.tl.hd 2).trans rfl, (blk_cell E_8_3_4.out.hX.tl.tl.hd 3).trans rfl, (blk_cell E_8_3_4.out.hX.tl.tl.hd 4).trans rfl⟩ (fun hHeld => ?_)
         clear hK K
         refine norm_ (a' := ?_) ?_ ?_
         rotate_left
         ·show Act.put _ (some 101) _ = _
          simp only [Act.put, List.setIfInBounds_toArray, List.set_cons_zero, List.set_cons_succ, i64_w, i32_w]
          rfl
         refine pure_ (i := 5) (N := some 96) (v := ?_) (a' := ?_) #[tt_,tt_,tt_,tt_,tt_,tt_,ff_,ff_,tt_,ff_,ff_] rfl rfl (by kernel_rfl) (fun _ _ _ h => h) (Or.inl ⟨by rfl, ?_⟩) ?_ ?_
         rotate_left
         ·intro w'
          go_simp
          with_reducible rfl
         rotate_left
         ·simp only [Act.put, List.setIfInBounds_toArray, List.set_cons_zero, List.set_cons_succ, i64_w, i32_w]
          rfl
         refine pure_ (i := 6) (N := some 102) (v := ?_) (a' := ?_) #[tt_,tt_,tt_,tt_,tt_,tt_,tt_,ff_,tt_,ff_,ff_] rfl rfl (by kernel_rfl) (fun _ _ _ h => h) (Or.inl ⟨by rfl, ?_⟩) ?_ ?_
         rotate_left
         ·intro w'
          go_simp
          with_reducible rfl
         rotate_left
         ·simp only [Act.put, List.setIfInBounds_toArray, List.set_cons_zero, List.set_cons_succ, i64_w, i32_w]
          rfl
         refine pure_ (i := 7) (N := some 103) (v := ?_) (a' := ?_) #[tt_,tt_,tt_,tt_,tt_,tt_,tt_,tt_,tt_,ff_,ff_] rfl rfl (by kernel_rfl) (fun _ _ _ h => h) (Or.inl ⟨by rfl, ?_⟩) ?_ ?_
         rotate_left
         ·intro w'
          go_simp
          with_reducible rfl
         rotate_left
         ·simp only [Act.put, List.setIfInBounds_toArray, List.set_cons_zero, List.set_cons_succ, i64_w, i32_w]
          rfl
         exact norm_ (by rfl) (hCont (v1, gQ) _ ⟨E_8_3_4.out, L_8_3_4.out, V_8_3_4.out, Q_8_3_4.out, GQ.out⟩)
       rintro ⟨v1, gQ⟩ w5 ⟨hE, hL, hR, hQ, hge⟩
       simp only at hR hQ hge
       obtain ⟨Az, cz, rfl⟩ := Kd.R_slice hR
       have E5 := Aside0.mk hE
       have V5 := Aside0.mk hR
       have Q5 := Aside0.mk hQ
       have GQ5 := Aside0.mk hge
       have hHeld : w5.cell? ⟨gL, 0, none⟩ = some (.int .i64 (p.w : Int)) ∧ w5.cell? ⟨gL, 1, none⟩ = some (.int .i64 (p.h : Int)) ∧ w5.cell? ⟨gL, 2, none⟩ = some (.slice A2 s.length cA) ∧ w5.cell? ⟨gG, 0, none⟩ = some (.int .i64 (p.sp : Int)) ∧ w5.cell? ⟨gG, 1, none⟩ = some (.int .i64 (l.length : Int)) ∧ w5.cell? ⟨gG, 2, none⟩ = some (.int .i64 (p.w : Int)) ∧ w5.cell? ⟨gG, 3, none⟩ = some (.int .i64 (p.h : Int)) ∧ w5.cell? ⟨gG, 4, none⟩ = some (.int .i64 (S : Int)) := ⟨(blk_cell hL 0).trans rfl, (blk_cell hL 1).trans rfl, (blk_cell hL 2).trans rfl, (blk_cell hE.hX.tl.tl.hd 0).trans rfl, (blk_cell hE.hX.tl.tl.hd 1).trans rfl, (blk_cell hE.hX.tl.tl.hd 2).trans rfl, (blk_cell hE.hX.tl.tl.hd 3).trans rfl, (blk_cell hE.hX.tl.tl.hd 4).trans rfl⟩
       have q0 := (blk_cell Q5.out 0).trans rfl
       have q1 := (blk_cell Q5.out 1).trans rfl
       have q2 := (blk_cell Q5.out 2).trans rfl
       have f0 := blk_frozen Q5.out 0
       have f1 := blk_frozen Q5.out 1
       have f2 := blk_frozen Q5.out 2
       clear hE hL hR hQ hge
       refine norm_ (a' := ?_) ?_ ?_
       rotate_left
       ·simp only [YtbbebhdcfopmmaaW.PrintLast.putAll, Act.put, List.setIfInBounds_toArray, List.set_cons_zero, List.set_cons_succ]
        rfl
       refine last_ (i := 9) (N := none) #[tt_,tt_,tt_,tt_,tt_,tt_,tt_,tt_,tt_,tt_,ff_] rfl rfl (by kernel_rfl) (by decide) (fun K hK => ?_)
       refine skip_ (w1 := ?_) (by rfl) rfl ?_ ?_
       rotate_left
       ·go_simp
        rfl
       refine hK.out _ _ ?_
       clear hK K
       refine pure_ (i := 10) (N := some 18) (v := ?_) (a' := ?_) #[tt_,tt_,tt_,tt_,tt_,tt_,tt_,tt_,tt_,tt_,tt_] rfl rfl (by kernel_rfl) (fun _ _ _ h => h) (Or.inl ⟨by rfl, ?_⟩) ?_ ?_
       rotate_left
       ·intro w'
        go_simp
        with_reducible rfl
       rotate_left
       ·simp only [Act.put, List.setIfInBounds_toArray, List.set_cons_zero, List.set_cons_succ, i64_w, i32_w]
        rfl
       refine done_ (by kernel_rfl) ?_
       obtain ⟨w6', hw6⟩ : ∃ w6', w6' = ((w5.setCell ⟨gQ, 0, none⟩ (.int .i64 (dx : Int))).setCell ⟨gQ, 1, none⟩ (.int .i64 (dy : Int))).setCell ⟨gQ, 2, none⟩ (.slice Az zs.length cz) := ⟨_, rfl⟩
       rw [← hw6]
       obtain ⟨hQ6, hst6, hbl6⟩ := put3 Q5.out hw6
       have Q6 := Aside0.mk hQ6
       have E6 := Aside0.mk (E5.out.store Q5.out (by decide) rfl hst6 (hbl6 _ GQ5.out))
       have V6 : Aside0 ((nat .u32).R 24 w6' w.heap.size (fun _ => True) (.slice Az zs.length cz) zs) := ⟨Kd.R_mono (Kd.R_move (Kd.R_types V5.out Q5.out (by decide)) (fun k hk => hst6 k hk.2)) (fun _ _ => trivial)⟩
       have V6C : Aside0 ((nat .u32).C w6' Az zs.length zs ∧ zs.length ≤ cz) := ⟨by obtain ⟨A', c', e1, h1, h2⟩ := Kd.R_reads V6.out; injection e1 with e1 _ e3; rw [e1, e3]; exact ⟨h2, h1⟩⟩
       clear hw6 hQ6 hst6 hbl6 q0 q1 q2 f0 f1 f2 E5 V5 Q5 V6 E_ L_
       have q0 := (blk_cell Q6.out 0).trans rfl
       have q1 := (blk_cell Q6.out 1).trans rfl
       have q2 := (blk_cell Q6.out 2).trans rfl
       obtain ⟨pb, hpb⟩ : ∃ pb, pb = parts ++ bs := ⟨_, rfl⟩
       have HPB := Aside0.mk hpb
       have HPBL : Aside0 (pb.length < 70368744177664) := ⟨by rw [hpb, List.length_append]; have := HPL.out; have := HBL.out; omega⟩
       have HBLL : Aside0 (bs.length < 1152921504606846976) := ⟨by have := HBL.out; omega⟩
       clear hpb
       go_wp2_with (first | (go_at_call 22; refine (Rests_own (zs.length + 2) V6C.out.1 V6C.out.2 HRS.out).mono ?_; rintro e w7 ⟨v7, rfl, hR, hb⟩; obtain ⟨Ar, cr, rfl, hcr, hCr⟩ := Kd.R_reads hR; have E7 := Aside0.mk (E6.out.below hb); have C7 := Aside0.mk hCr; have C7c := Aside0.mk hcr; clear hR hb hcr hCr q0 q1 q2) |
        (go_at_call 69; refine (Encode_calls Ar cr rs _ C7.out C7c.out HR32.out HRL.out).mono ?_; rw [← HBS.out]; rintro e w8 ⟨v8, rfl, hO, hb⟩; obtain ⟨Ab, cb, rfl, hcb, hCb⟩ := hO.C; have O8 := Aside0.mk hO; have E8 := Aside0.mk (E7.out.below hb); have HCB := Aside0.mk hcb; clear hO hb hcb hCb) |
        (go_at_call 65; refine (numbered4 bs.length HOL.out w E8.out.hB E8.out.ho).mono ?_; rintro e w9 ⟨v9', rfl, hR, hb, hk, hv⟩; have E9 := Aside0.mk (E8.out.out hR hb hk hv); have O9 := Aside0.mk (O8.out.move (fun g hg1 hg2 => hk.2 g hg2 (fun e => by have h := (E7.out.ho.lt e).2; omega))); have O9C : Aside0 ((nat .u8).C w9 Ab bs.length bs) := ⟨by obtain ⟨A', c', e1, _, hC'⟩ := O9.out.C; injection e1 with e1 _ _; rw [e1]; exact hC'⟩; clear hR hb hk hv) |
        ((with_reducible refine gate_builtin (b := .append) (xs := #[.tmp 122, .tmp 123]) rfl ?_); at_builtin; refine Kd.R_append_row (fun x : Nat => Value.int .u8 (x : Int)) 0 (h1 := fun _ => rfl) (w0 := w) w.heap.size rfl (.tmp 122) (.tmp 123) 23 5 (.int .u8 0) 1 rfl Try.underlying23 info5 rfl (by decide) u12 parts bs Ab bs.length cb (fun _ => True) rfl rfl (fun _ _ => trivial) (Kd.R_mono E9.out.hp (fun _ _ => trivial)) O9C.out E9.out.hB ?aS ?aL ?_; (case aS => exact below_size E9.out.hB); (case aL => have := HPL.out; have := HBL.out; omega); intro v10 w10 hR hB hg hat; rw [← HPB.out] at hR; have E10 := Aside0.mk (E9.out.parts (OwnB.of_R hR) hB (kept_grown hg) (hat_or hat)); have O10 := Aside0.mk (O9.out.move (fun g hg1 hg2 => hg.block g hg2 (fun e => by have h := (E7.out.hp.lt e.symm).2; omega))); have O10C : Aside0 ((nat .u8).C w10 Ab bs.length bs) := ⟨by obtain ⟨A', c', e1, _, hC'⟩ := O10.out.C; injection e1 with e1 _ _; rw [e1]; exact hC'⟩; clear hR hB hg hat) |
        (go_at_call 70; refine (summed_calls gT cb Ab v10 pb bs w _ ⟨ct, E10.out.hX.hd, HTS.out, HTI.out⟩ E10.out.hB E10.out.hp O10C.out HCB.out HB8.out HBLL.out HPBL.out).mono ?_; rintro e w11 ⟨v11, rfl, hR, hb, hk, hv⟩; have E11 := Aside0.mk (E10.out.parts hR hb hk hv); clear hR hb hk hv))
       have HF : Aside0 (EI w [(gT, ct, 130), (gP, #[.int .i64 (p.sp : Int), .slice (some ad) l.length cap], 47), (gG, #[.int .i64 (p.sp : Int), .int .i64 (l.length : Int), .int .i64 (p.w : Int), .int .i64 (p.h : Int), .int .i64 (S : Int)], 105)] w11 v9' v11 (p.head S ++ p.idx S (t * p.ss.length + (k + 1))) (p.parts S (t * p.ss.length + (k + 1)))) := ⟨by
        have e1 : p.head S ++ p.idx S (t * p.ss.length + (k + 1)) = out ++ beN 4 bs.length := by rw [← Nat.add_assoc, ← HN.out, p.idx_succ, HOUT.out, HBO.out, List.append_assoc]
        have e2 : p.parts S (t * p.ss.length + (k + 1)) = pb ++ beN 4 (crc bs) := by rw [← Nat.add_assoc, ← HN.out, p.parts_succ, HPB.out, HPARTS.out, HBO.out, List.append_assoc]
        rw [e1, e2]; exact E11.out⟩
       go_roundw
       case measure => simp [intOf]; omega
       case rel => first | exact ⟨k + 1, by omega, by go_num, HF⟩ | ((repeat apply Exists.intro); exact ⟨⟨k + 1, by omega, by go_num, HF⟩, rfl⟩)
      ·obtain rfl : k = l.length := by omega
       have c2 : decide ((l.length : Int) < (l.length : Int)) = false := decide_eq_false (by omega)
       have HF : Aside0 (EI w [(gT, ct, 130), (gP, #[.int .i64 (p.sp : Int), .slice (some ad) l.length cap], 47), (gG, #[.int .i64 (p.sp : Int), .int .i64 (l.length : Int), .int .i64 (p.w : Int), .int .i64 (p.h : Int), .int .i64 (S : Int)], 105)] wr u9 u12 (p.head S ++ p.idx S ((t + 1) * p.ss.length)) (p.parts S ((t + 1) * p.ss.length))) := ⟨by have h := HI.out; rw [show t * p.ss.length + l.length = (t + 1) * p.ss.length by rw [HK.out, Nat.succ_mul]] at h; exact h⟩
       have htl := HTL.out
       have hT4 : T ≤ 65536 := by rw [HTT.out]; exact tilesN_le (HOK.out.2.2.2.2 0 HOK.out.2.1).2.2.2.2.1
       go_wp2
       go_roundw
       case measure => simp [intOf]; omega
       case rel => first | exact ⟨t + 1, by omega, by go_num, HF⟩ | ((repeat apply Exists.intro); exact ⟨⟨t + 1, by omega, by go_num, HF⟩, rfl⟩)
    ·obtain rfl : t = T := by omega
     have c1 : decide ((t : Int) < (t : Int)) = false := decide_eq_false (by omega)
     obtain ⟨out, hout⟩ : ∃ out, out = p.head S ++ p.idx S (t * p.ss.length) := ⟨_, rfl⟩
     obtain ⟨parts, hparts⟩ : ∃ parts, parts = p.parts S (t * p.ss.length) := ⟨_, rfl⟩
     have hn2 : t * p.ss.length ≤ 262144 := Nat.mul_le_mul (show t ≤ 65536 by rw [HTT.out]; exact tilesN_le (HOK.out.2.2.2.2 0 HOK.out.2.1).2.2.2.2.1) HOK.out.2.2.1
     have HOL : Aside0 (out.length ≤ 1048588) := ⟨by rw [hout, List.length_append, p.head_len, p.idx_len]; omega⟩
     have HPL : Aside0 (parts.length ≤ 120260395008) := ⟨by rw [hparts]; have := Pic.parts_len HOK.out S (t * p.ss.length); omega⟩
     have HO8 : Aside0 (∀ i, gt out i < 256) := ⟨by rw [hout]; exact p.out8 S _⟩
     have HENC : Aside0 (encN p S = (out ++ beN 4 (crc out)) ++ parts) := ⟨by unfold encN Pic.count; rw [← HTT.out, ← hout, ← hparts]⟩
     rw [← hout, ← hparts] at HI
     clear hout hparts hn2
     obtain ⟨o2, ho2⟩ : ∃ o2, o2 = out ++ beN 4 (crc out) := ⟨_, rfl⟩
     have HO2 := Aside0.mk ho2
     have HL2 : Aside0 ((o2.length + parts.length) * 1 ≤ 140737488355328) := ⟨by rw [ho2, List.length_append, beN_length]; have := HOL.out; have := HPL.out; omega⟩
     rw [← ho2] at HENC
     clear ho2
     obtain ⟨A9, c9, e9, hc9, hC9⟩ := HI.out.ho.C
     obtain ⟨Ap, cp, ep, hcp, hCp⟩ := HI.out.hp.C
     subst e9
     subst ep
     have HC9 := Aside0.mk hC9
     have Hc9 := Aside0.mk hc9
     have HOLL : Aside0 (out.length < 1152921504606846976 ∧ out.length < 70368744177664) := ⟨by have := HOL.out; omega⟩
     clear hc9 hC9 hcp hCp
     go_wp2_with (first | (go_at_call 70; refine (summed_calls gT c9 A9 (.slice A9 out.length c9) out out w _ ⟨ct, HI.out.hX.hd, HTS.out, HTI.out⟩ HI.out.hB HI.out.ho HC9.out Hc9.out HO8.out HOLL.out.1 HOLL.out.2).mono ?_; rw [← HO2.out]; rintro e w4 ⟨v3, rfl, hR, hb, hk, hv⟩; have E4 := Aside0.mk (HI.out.out hR hb hk hv); have V3 := Aside0.mk E4.out.ho; have B3 := Aside0.mk E4.out.hB; have PC3 : Aside0 ((nat .u8).C w4 Ap parts.length parts) := ⟨by obtain ⟨A', c', e1, _, hC'⟩ := E4.out.hp.C; injection e1 with e1 _ _; rw [e1]; exact hC'⟩; clear hR hb hk hv) | ((with_reducible refine gate_builtin (b := .append) (xs := #[.tmp 132, .tmp 133]) rfl ?_); at_builtin; refine Kd.R_append_row (fun x : Nat => Value.int .u8 (x : Int)) 0 (h1 := fun _ => rfl) (w0 := w) w.heap.size rfl (.tmp 132) (.tmp 133) 23 5 (.int .u8 0) 1 rfl Try.underlying23 info5 rfl (by decide) v3 o2 parts Ap parts.length cp (fun _ => True) rfl rfl (fun _ _ => trivial) (Kd.R_mono V3.out (fun _ _ => trivial)) PC3.out B3.out ?aS ?aL ?_; (case aS => exact below_size B3.out); (case aL => have := HL2.out; omega); intro v4 w5 hR hB hg hat; have V4 := Aside0.mk (OwnB.of_R hR); have B4 := Aside0.mk hB; clear hR hB hg hat))
     go_ret2
     exact ⟨_, rfl, by rw [HENC.out]; exact V4.out, B4.out⟩
end Go.Proofs.Ytbbebhdcfopmmaa.A
end
section
set_option linter.unusedVariables false
set_option linter.unusedSimpArgs false
namespace Go.Proofs.Ytbbebhdcfopmmaa.A
open Go.RowKit Go.Proofs.YtbbebhdcfopmmaaW.PrintWords Go.Proofs.YtbbebhdcfopmmaaW.PrintLast Go.Proofs.YtbbebhdcfopmmaaW.PrintMore Go.Proofs.Ytbbebhdcfopmmaa.PCodecNames

theorem opened_calls (A : Option Addr) (cap : Nat) (b : List Nat) (w : World) (hC : (nat .u8).C w A b.length b) (hcap : b.length ≤ cap) (h8 : ∀ i, gt b i < 256) (hl : b.length < 4611686018427387904) :
    Calls Try.prog 75 #[.slice A b.length cap] w fun e w1 => OpenPost w b A cap e w1 := by
 by_cases h1 : 4194304 < b.length
 ·exact opened_long A cap b w h1 hl
 ·by_cases h2 : b.length < 12
  ·exact opened_short A cap b w h2
  ·obtain ⟨ad, rfl, _⟩ := C_nat hC 0 (by omega)
   exact opened_main ad cap b w hC hcap h8 (by omega) (by omega)

set_option maxHeartbeats 4000000 in
set_option maxRecDepth 100000 in
theorem Read_ok (sp pl W H S : Nat) (A : Option Addr) (cap : Nat) (b : List Nat) (w : World) (hC : (nat .u8).C w A b.length b) (hcap : b.length ≤ cap) (h8 : ∀ i, gt b i < 256) (hl : b.length < 4611686018427387904) (he : openE b = 0) (q0 : hSp b = sp) (q1 : hPl b = pl) (q2 : hW b = W) (q3 : hH b = H) (q4 : hS b = S) :
    Calls Try.prog 37 #[.slice A b.length cap] w fun e w1 => e = .returned (.tuple #[.agg #[.int .i64 (sp : Int), .int .i64 (pl : Int), .int .i64 (W : Int), .int .i64 (H : Int), .int .i64 (S : Int)], .int .i64 0]) ∧ Below w.heap.size w w1 := by
 have hu121 := Try.underlying121
 have hu60 := Try.underlying60
 have hu105 := Try.underlying105
 have HE : Aside0 (openE b = 0) := ⟨he⟩
 obtain ⟨at0, q5⟩ : ∃ a, 16 + hN b = a := ⟨_, rfl⟩
 have Q0 := Aside0.mk q0; have Q1 := Aside0.mk q1; have Q2 := Aside0.mk q2; have Q3 := Aside0.mk q3; have Q4 := Aside0.mk q4; have Q5 := Aside0.mk q5
 clear q0 q1 q2 q3 q4 q5
 have HC := Aside0.mk hC
 have HCAP := Aside0.mk hcap
 have H8 := Aside0.mk h8
 have HL := Aside0.mk hl
 clear hC hcap h8 hl he
 go_enter Try.func37, Try.ntmps37
 go_wp2_with (first | ((with_reducible refine gate_dst (N := 2) rfl ?_); refine box_event ?hg (N := 2) ?hd (cs := #[.int .i64 0, .int .i64 0, .int .i64 0, .int .i64 0, .int .i64 0]) (t := 60) ?hr ?_; (case hd => rfl); (case hg => rfl); (case hr => first | (go_simp; done) | (go_simp; rfl)); intro gR hg_ w1 hm_ hb_; have R1 := Aside0.mk (hm_); have B1 := Aside0.mk (hb_); have GR := Aside0.mk (show w.heap.size ≤ gR by rw [hg_]; exact Nat.le_refl _); clear hm_ hb_ hg_) | (go_at_call 75; with_reducible refine (opened_calls A cap b _ ?h1 HCAP.out H8.out HL.out).mono ?_; (case h1 => exact Kd.C_below HC.out B1.out); unfold OpenPost; rintro e w3 ⟨hb, hor⟩; obtain ⟨_, gT, vi, he, _, _, hV⟩ := hor.resolve_left (fun h => absurd HE.out h.1); rw [Q0.out, Q1.out, Q2.out, Q3.out, Q4.out, Q5.out] at he; obtain ⟨Av, cv, hvi⟩ := Kd.R_slice hV; obtain ⟨n, hn⟩ : ∃ n, n = (idxTo b (hK b)).length := ⟨_, rfl⟩; rw [← hn] at hvi; subst hvi; subst he; clear hn hV; have R3 := Aside0.mk (blk_below R1.out hb); have B3 := Aside0.mk (below_step B1.out hb); clear hb hor) | ((with_reducible refine gate_dst (N := 4) rfl ?_); refine box_event ?hg (N := 4) ?hd (cs := #[.int .i64 0, .int .i64 0, .int .i64 0, .int .i64 0, .int .i64 0, .pointer none, .slice none 0 0, .slice none 0 0, .int .i64 0]) (t := 121) ?hr ?_; (case hd => rfl); (case hg => rfl); (case hr => first | (go_simp; done) | (go_simp; rfl)); intro gf hg_ w4 hm_ hb_; have R4 := Aside0.mk (blk_below R3.out hb_); have F4 := Aside0.mk (hm_); have B4 := Aside0.mk (below_step B3.out hb_); have GF := Aside0.mk (show w.heap.size ≤ gf by rw [hg_]; exact below_size B3.out); have NRF := Aside0.mk (blk_ne R4.out F4.out (by decide)); have p0 := (blk_cell F4.out 0).trans rfl; have p1 := (blk_cell F4.out 1).trans rfl; have p2 := (blk_cell F4.out 2).trans rfl; have p3 := (blk_cell F4.out 3).trans rfl; have p4 := (blk_cell F4.out 4).trans rfl; have p5 := (blk_cell F4.out 5).trans rfl; have p6 := (blk_cell F4.out 6).trans rfl; have p7 := (blk_cell F4.out 7).trans rfl; have p8 := (blk_cell F4.out 8).trans rfl; have fp0 := blk_frozen F4.out 0; have fp1 := blk_frozen F4.out 1; have fp2 := blk_frozen F4.out 2; have fp3 := blk_frozen F4.out 3; have fp4 := blk_frozen F4.out 4; have fp5 := blk_frozen F4.out 5; have fp6 := blk_frozen F4.out 6; have fp7 := blk_frozen F4.out 7; have fp8 := blk_frozen F4.out 8; have X5 := Aside0.mk (put9 (x0 := .int .i64 (sp : Int)) (x1 := .int .i64 (pl : Int)) (x2 := .int .i64 (W : Int)) (x3 := .int .i64 (H : Int)) (x4 := .int .i64 (S : Int)) (x5 := .pointer (some ⟨gT, 0, none⟩)) (x6 := .slice Av n cv) (x7 := .slice A b.length cap) (x8 := .int .i64 (at0 : Int)) F4.out rfl); have R5 := Aside0.mk ((X5.out.2.1 gR NRF.out).trans R4.out); have B5 := Aside0.mk (B4.out.trans (X5.out.2.2 _ GF.out)); have o0 := (blk_cell R5.out 0).trans rfl; have o1 := (blk_cell R5.out 1).trans rfl; have o2 := (blk_cell R5.out 2).trans rfl; have o3 := (blk_cell R5.out 3).trans rfl; have o4 := (blk_cell R5.out 4).trans rfl; have fo0 := blk_frozen R5.out 0; have fo1 := blk_frozen R5.out 1; have fo2 := blk_frozen R5.out 2; have fo3 := blk_frozen R5.out 3; have fo4 := blk_frozen R5.out 4; have y0 := (blk_cell X5.out.1 0).trans rfl; have y1 := (blk_cell X5.out.1 1).trans rfl; have y2 := (blk_cell X5.out.1 2).trans rfl; have y3 := (blk_cell X5.out.1 3).trans rfl; have y4 := (blk_cell X5.out.1 4).trans rfl; clear hm_ hb_ hg_))
 obtain ⟨w6, hw6⟩ : ∃ w6, w6 = (((((((((w4.setCell ⟨gf, 0, none⟩ (.int .i64 (sp : Int))).setCell ⟨gf, 1, none⟩ (.int .i64 (pl : Int))).setCell ⟨gf, 2, none⟩ (.int .i64 (W : Int))).setCell ⟨gf, 3, none⟩ (.int .i64 (H : Int))).setCell ⟨gf, 4, none⟩ (.int .i64 (S : Int))).setCell ⟨gf, 5, none⟩ (.pointer (some ⟨gT, 0, none⟩))).setCell ⟨gf, 6, none⟩ (.slice Av n cv)).setCell ⟨gf, 7, none⟩ (.slice A b.length cap)).setCell ⟨gf, 8, none⟩ (.int .i64 (at0 : Int))) := ⟨_, rfl⟩
 rw [← hw6] at R5 B5 ⊢
 obtain ⟨wz, hwz⟩ : ∃ wz, wz = ((((w6.setCell ⟨gR, 0, none⟩ (.int .i64 (sp : Int))).setCell ⟨gR, 1, none⟩ (.int .i64 (pl : Int))).setCell ⟨gR, 2, none⟩ (.int .i64 (W : Int))).setCell ⟨gR, 3, none⟩ (.int .i64 (H : Int))).setCell ⟨gR, 4, none⟩ (.int .i64 (S : Int)) := ⟨_, rfl⟩
 rw [← hwz]
 obtain ⟨hGz, hstz, hblz⟩ := put5 R5.out hwz
 refine bodyPost_ret (results_ct rfl _ _ gR 60 #[.int .i64 (sp : Int), .int .i64 (pl : Int), .int .i64 (W : Int), .int .i64 (H : Int), .int .i64 (S : Int)] (0, 0) _ rfl hGz Try.underlying60 rfl (by kernel_rfl)) rfl ?_
 refine ⟨?_, B5.out.trans (hblz _ GR.out)⟩
 exact congrArg (fun v => Ending.returned (Value.tuple #[Value.agg #[.int .i64 (sp : Int), .int .i64 (pl : Int), .int .i64 (W : Int), .int .i64 (H : Int), .int .i64 (S : Int)], v])) rfl
end Go.Proofs.Ytbbebhdcfopmmaa.A
end
