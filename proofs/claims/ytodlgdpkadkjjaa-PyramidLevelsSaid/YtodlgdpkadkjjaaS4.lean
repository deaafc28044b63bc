import Derived.Test.YtodlgdpkadkjjaaS3
import Derived.BigQuiet
section
set_option linter.unusedVariables false
set_option linter.unusedSimpArgs false
namespace Go.Proofs.Ytodlgdpkadkjjaa.A
open Go.RowKit Go.Shelf Go.Proofs.YtodlgdpkadkjjaaW.PrintWords Go.Proofs.YtodlgdpkadkjjaaW.PrintLast Go.Proofs.YtodlgdpkadkjjaaW.PrintMore Go.Proofs.Ytodlgdpkadkjjaa.PPyramidLevels

theorem R_slice1 {α : Type} {d : Kd α} {e base : Nat} {ok : Nat → Prop} {w : World} {v : Value} {xs : List α} (h : d.R e w base ok v xs) (hn : 0 < xs.length) : ∃ (ad : Addr) (c : Nat), v = .slice (some ad) xs.length c := by
 obtain ⟨g, c, rfl, _⟩ := Kd.R_form h hn
 exact ⟨_, c, rfl⟩
def ApartV (u v : Value) : Prop := ∀ k, u.ownBlock = some k → v.ownBlock ≠ some k
/-- a slice's header -/
abbrev Hd := Option Addr × Nat × Nat
def Hd.v (h : Hd) : Value := .slice h.1 h.2.1 h.2.2
def hdr : Kd Hd := Kd.scalar (fun h : Hd => h.v) (fun _ => rfl)
/-- a plane's three cells, its samples' row aside -/
def pk : Kd (Nat × Nat × Hd) := Kd.pair (nat .i64) (Kd.pair (nat .i64) hdr)
theorem pk_M {w : World} {B : Nat} {ok : Nat → Prop} (x y : Nat) (h : Hd) : pk.M w B ok (x, y, h) [.int .i64 (x : Int), .int .i64 (y : Int), h.v] := ⟨[.int .i64 (x : Int)], [.int .i64 (y : Int), h.v], rfl, rfl, ⟨[.int .i64 (y : Int)], [h.v], rfl, rfl, rfl⟩⟩
theorem infoPl : (Try.prog.info? 25).map (fun i => (i.zero, i.size, i.bytes)) = some (some (.agg #[.int .i64 0, .int .i64 0, .slice none 0 0]), 3, 40) := by kernel_rfl
theorem pk_move {W W1 : World} {B : Nat} {ok : Nat → Prop} {v : Value} {xs : List (Nat × Nat × Hd)} (h : pk.R 25 W B ok v xs) (hm : ∀ k, v.ownBlock = some k → W1.heap[k]? = W.heap[k]?) : pk.R 25 W1 B ok v xs := by
 obtain ⟨h0, inner, hown, hr⟩ := h
 refine ⟨h0, inner, own_move hown hm, hr.imp_ (fun x cs hx => ?_)⟩
 obtain ⟨c0, c1, rfl, e0, ⟨c2, c3, rfl, e1, e2⟩⟩ := hx
 exact ⟨c0, c2 ++ c3, rfl, e0, ⟨c2, c3, rfl, e1, e2⟩⟩
theorem pk_self {W : World} {B : Nat} {ok : Nat → Prop} {v : Value} {xs : List (Nat × Nat × Hd)} (h : pk.R 25 W B ok v xs) : pk.R 25 W B (fun k => v.ownBlock = some k) v xs := by
 obtain ⟨h0, inner, hown, hr⟩ := h
 refine ⟨fun k hk => hk, inner, hown, hr.imp_ (fun x cs hx => ?_)⟩
 obtain ⟨c0, c1, rfl, e0, ⟨c2, c3, rfl, e1, e2⟩⟩ := hx
 exact ⟨c0, c2 ++ c3, rfl, e0, ⟨c2, c3, rfl, e1, e2⟩⟩
theorem nat_self {k : IntKind} {e : TypeId} {W : World} {B : Nat} {ok : Nat → Prop} {v : Value} {xs : List Nat} (h : (nat k).R e W B ok v xs) : (nat k).R e W B (fun j => v.ownBlock = some j) v xs := Kd.R_of_own (Kd.own_of_R h) (fun _ hk => hk)
theorem nat_move {k : IntKind} {e : TypeId} {W W1 : World} {B : Nat} {ok : Nat → Prop} {v : Value} {xs : List Nat} (h : (nat k).R e W B ok v xs) (hm : ∀ j, v.ownBlock = some j → W1.heap[j]? = W.heap[j]?) : (nat k).R e W1 B ok v xs := Kd.R_of_own (own_move (Kd.own_of_R h) hm) h.1
/-- planes in memory of one's own: no two of them share a row -/
structure PlsOwn (B : Nat) (W : World) (vp : Value) (es : List (Nat × Nat × Hd)) (ss : List (List Nat)) : Prop where
 row : pk.R 25 W B (fun k => vp.ownBlock = some k) vp es
 len : es.length = ss.length
 pls : ∀ k (h1 : k < es.length), (nat .u32).R 50 W B (fun j => (es[k]).2.2.v.ownBlock = some j) (es[k]).2.2.v (ss.getD k [])
 ap : ∀ i j (h1 : i < es.length) (h2 : j < es.length), i ≠ j → ApartV (es[i]).2.2.v (es[j]).2.2.v
section
variable {B : Nat} {W W1 : World} {vp : Value} {es : List (Nat × Nat × Hd)} {ss : List (List Nat)}
theorem PlsOwn.move (H : PlsOwn B W vp es ss) (h1 : ∀ k, vp.ownBlock = some k → W1.heap[k]? = W.heap[k]?) (h2 : ∀ i (hi : i < es.length) k, (es[i]).2.2.v.ownBlock = some k → W1.heap[k]? = W.heap[k]?) : PlsOwn B W1 vp es ss :=
 ⟨pk_move H.row h1, H.len, fun k hk => nat_move (H.pls k hk) (h2 k hk), H.ap⟩
theorem PlsOwn.row_lt (H : PlsOwn B W vp es ss) {k : Nat} (hk : vp.ownBlock = some k) : B ≤ k ∧ k < W.heap.size ∧ ∃ cells, W.heap[k]? = some (.cells cells 25 (0, 0)) := by
 obtain ⟨h0, inner, hown, hr⟩ := H.row
 obtain ⟨cs, hc⟩ := own_typed hown k hk
 have := (Kd.R_bound H.row).1 k hk
 exact ⟨this.2.1, this.2.2.1, cs, hc⟩
theorem PlsOwn.pl_lt (H : PlsOwn B W vp es ss) {i : Nat} (hi : i < es.length) {k : Nat} (hk : (es[i]).2.2.v.ownBlock = some k) : B ≤ k ∧ k < W.heap.size ∧ ∃ cells, W.heap[k]? = some (.cells cells 50 (0, 0)) := by
 obtain ⟨cs, hc⟩ := own_typed (Kd.own_of_R (H.pls i hi)) k hk
 have := (Kd.R_bound (H.pls i hi)).1 k hk
 exact ⟨this.2.1, this.2.2.1, cs, hc⟩
theorem PlsOwn.below (H : PlsOwn B W vp es ss) (hb : Below W.heap.size W W1) : PlsOwn B W1 vp es ss :=
 H.move (fun k hk => hb.block k (H.row_lt hk).2.1) (fun i hi k hk => hb.block k (H.pl_lt hi hk).2.1)
theorem PlsOwn.keep (H : PlsOwn B W vp es ss) {g : Nat} (hst : ∀ k, k ≠ g → W1.heap[k]? = W.heap[k]?) (h1 : ¬ vp.ownBlock = some g) (h2 : ∀ i (hi : i < es.length), ¬ (es[i]).2.2.v.ownBlock = some g) : PlsOwn B W1 vp es ss :=
 H.move (fun k hk => hst k (fun e => h1 (e ▸ hk))) (fun i hi k hk => hst k (fun e => h2 i hi (e ▸ hk)))
theorem PlsOwn.ne_pl (H : PlsOwn B W vp es ss) {g : Nat} {cs : Array Value} {t : TypeId} (hg : W.heap[g]? = some (.cells cs t (0, 0))) (ht : t ≠ 50) : ∀ i (hi : i < es.length), ¬ (es[i]).2.2.v.ownBlock = some g := fun i hi e => by
 obtain ⟨_, _, cells, hc⟩ := H.pl_lt hi e
 rw [hg] at hc
 injection hc with hc
 injection hc with _ h2
 exact ht h2
theorem PlsOwn.nil (B : Nat) (W : World) : PlsOwn B W (.slice none 0 0) [] [] := ⟨Kd.R_nil _ _ _ _ _, rfl, fun k hk => absurd hk (Nat.not_lt_zero _), fun i j hi => absurd hi (Nat.not_lt_zero _)⟩
theorem PlsOwn.push (H : PlsOwn B W vp es ss) (a b : Nat) (x : Hd) (zs : List Nat) {ok : Nat → Prop} (hx : (nat .u32).R 50 W B ok x.v zs) (hap : ∀ k (hk : k < es.length), ApartV (es[k]).2.2.v x.v) {v1 : Value} {ok1 : Nat → Prop} (hR : pk.R 25 W1 B ok1 v1 (es ++ [(a, b, x)])) (hg : W.grownBy W1 vp.ownBlock) :
    PlsOwn B W1 v1 (es ++ [(a, b, x)]) (ss ++ [zs]) := by
 have hne : ∀ k (cs : Array Value), W.heap[k]? = some (Obj.cells cs 50 (0, 0)) → W1.heap[k]? = W.heap[k]? := fun k cs hc => hg.block k (blk_lt hc) (fun e => by
  obtain ⟨_, _, cells, hc2⟩ := H.row_lt e.symm
  rw [hc] at hc2
  injection hc2 with hc2
  injection hc2 with _ h2
  exact absurd h2 (by decide))
 have hxt : ∀ j, x.v.ownBlock = some j → W1.heap[j]? = W.heap[j]? := fun j hj => by
  obtain ⟨cs, hc⟩ := own_typed (Kd.own_of_R hx) j hj
  exact hne j cs hc
 refine ⟨pk_self hR, by simp [H.len], fun k hk => ?_, fun i j h1 h2 hij => ?_⟩
 ·by_cases hkl : k < es.length
  ·have e1 : (es ++ [(a, b, x)])[k] = es[k] := List.getElem_append_left hkl
   have e2 : (ss ++ [zs]).getD k [] = ss.getD k [] := by
    rw [List.getD_eq_getElem?_getD, List.getD_eq_getElem?_getD, List.getElem?_append_left (by rw [← H.len]; exact hkl)]
   rw [e1, e2]
   exact nat_move (H.pls k hkl) (fun j hj => by obtain ⟨_, _, cs, hc⟩ := H.pl_lt hkl hj; exact hne j cs hc)
  ·have hk' : k = es.length := by simp at hk; omega
   subst hk'
   have e1 : (es ++ [(a, b, x)])[es.length] = (a, b, x) := by simp
   have e2 : (ss ++ [zs]).getD es.length [] = zs := by rw [H.len]; simp
   rw [e1, e2]
   exact nat_self (nat_move hx hxt)
 ·by_cases hi : i < es.length
  ·by_cases hj : j < es.length
   ·rw [List.getElem_append_left hi, List.getElem_append_left hj]; exact H.ap i j hi hj hij
   ·have hj' : j = es.length := by simp at h2; omega
    subst hj'
    have e1 : (es ++ [(a, b, x)])[es.length] = (a, b, x) := by simp
    rw [List.getElem_append_left hi, e1]; exact hap i hi
  ·have hi' : i = es.length := by simp at h1; omega
   subst hi'
   have hj : j < es.length := by simp at h2; omega
   have e1 : (es ++ [(a, b, x)])[es.length] = (a, b, x) := by simp
   rw [List.getElem_append_left hj, e1]
   exact fun k hk he => hap j hj k he hk
theorem PlsOwn.cells {ap : Addr} {n c : Nat} (H : PlsOwn B W (.slice (some ap) n c) es ss) {k : Nat} (hk : k < es.length) :
    W.cell? (ap.add (k * 3)) = some (.int .i64 ((es[k]).1 : Int)) ∧ W.cell? (ap.add (k * 3 + 1)) = some (.int .i64 ((es[k]).2.1 : Int)) ∧ W.cell? (ap.add (k * 3 + 2)) = some (es[k]).2.2.v := by
 obtain ⟨e, _, hC⟩ := Kd.R_reads' H.row
 obtain ⟨cs, h1, h2, h3⟩ := Kd.R_get H.row (0, 0, (none, 0, 0)) (k : Int) (by omega) (by omega)
 have h4 : es.getD (k : Int).toNat (0, 0, (none, 0, 0)) = es[k] := by
  rw [Int.toNat_natCast, List.getD_eq_getElem?_getD, List.getElem?_eq_getElem hk, Option.getD_some]
 rw [h4] at h2
 obtain ⟨c0, c1, rfl, e0, ⟨c2, c3, rfl, e1, e3⟩⟩ := h2
 have e0' : c0 = [.int .i64 ((es[k]).1 : Int)] := e0
 have e1' : c2 = [.int .i64 ((es[k]).2.1 : Int)] := e1
 have e3' : c3 = [(es[k]).2.2.v] := e3
 subst e0' e1' e3'
 have hsz : pk.sz = 3 := rfl
 rw [hsz, Int.toNat_natCast] at h3
 exact ⟨h3 0 _ rfl, h3 1 _ rfl, h3 2 _ rfl⟩
/-- the planes as data -/
def plsL (es : List (Nat × Nat × Hd)) (ss : List (List Nat)) : List S25 := (List.range es.length).map (fun k => ⟨(((es[k]?.getD (0, 0, (none, 0, 0))).1 : Nat) : Int), (((es[k]?.getD (0, 0, (none, 0, 0))).2.1 : Nat) : Int), ints (ss.getD k [])⟩)
theorem PlsOwn.C25 (H : PlsOwn B W vp es ss) (h0 : 0 < ss.length) (hm : ss.length ≤ 1048576) :
    ∃ ap c, vp = .slice (some ap) ss.length c ∧ ss.length ≤ c ∧ Kd.C k25 W (some ap) ss.length (plsL es ss) := by
 have hl : es.length = ss.length := H.len
 obtain ⟨ap, c, rfl⟩ := R_slice1 H.row (by rw [hl]; exact h0)
 rw [hl] at H ⊢
 have h4 := Kd.R_reads' H.row
 refine ⟨ap, c, rfl, h4.2.1, by simp [plsL, hl], by omega, fun _ => ⟨ap, rfl, fun j p hj => ?_⟩⟩
 have hjl : j < es.length := by
  have := (List.getElem?_eq_some_iff.mp hj).1
  simpa [plsL] using this
 have hp : p = ⟨((es[j]).1 : Int), ((es[j]).2.1 : Int), ints (ss.getD j [])⟩ := by
  unfold plsL at hj
  rw [List.getElem?_map, List.getElem?_range hjl, Option.map_some, Option.some.injEq, List.getElem?_eq_getElem hjl, Option.getD_some] at hj
  exact hj.symm
 subst hp
 obtain ⟨s0, s1, s2⟩ := H.cells hjl
 obtain ⟨A2, c2, hv, hc2, hC2⟩ := Kd.R_reads (H.pls j hjl)
 rw [hv] at s2
 refine ⟨[.int .i64 ((es[j]).1 : Int), .int .i64 ((es[j]).2.1 : Int), .slice A2 (ss.getD j []).length c2], rfl, ?_, fun i u hu => ?_⟩
 ·have := k25_mk W ⟨((es[j]).1 : Int), ((es[j]).2.1 : Int), ints (ss.getD j [])⟩ (A2 := A2) (c2 := c2) (by show (ints (ss.getD j [])).length ≤ c2; rw [ints_length]; exact hc2) (by show (Kd.int .u32).C W A2 (ints (ss.getD j [])).length (ints (ss.getD j [])); rw [ints_length]; exact C_ints hC2)
  simp only [ints_length] at this
  exact this
 ·match i, hu with
  | 0, hu => injection hu with hu; subst hu; exact s0
  | 1, hu => injection hu with hu; subst hu; exact s1
  | 2, hu => injection hu with hu; subst hu; exact s2
end
end Go.Proofs.Ytodlgdpkadkjjaa.A
end
section
set_option linter.unusedVariables false
set_option linter.unusedSimpArgs false
namespace Go.Proofs.Ytodlgdpkadkjjaa.A
open Go.RowKit Go.Shelf Go.Proofs.YtodlgdpkadkjjaaW.PrintWords Go.Proofs.YtodlgdpkadkjjaaW.PrintLast Go.Proofs.YtodlgdpkadkjjaaW.PrintMore Go.Proofs.Ytodlgdpkadkjjaa.PPyramidLevels

theorem infoH : (Try.prog.info? 23).map (fun i => (i.zero, i.size, i.bytes)) = some (some (.slice none 0 0), 1, 24) := by kernel_rfl
theorem infoI : (Try.prog.info? 3).map (fun i => (i.zero, i.size, i.bytes)) = some (some (.int .i64 0), 1, 8) := by kernel_rfl
theorem hdr_new {w : World} {g : Nat} {cells : Array Value} {e : TypeId} (hs : List Hd) (hb : w.heap[g]? = some (.cells cells e (0, 0))) (hc : cells = (hs.map Hd.v).toArray) (hl : hs.length ≤ 9223372036854775807) : hdr.C w (some ⟨g, 0, none⟩) hs.length hs := by
 refine Kd.C_of_reads (d := (none, 0, 0)) ⟨rfl, hl, fun hp => ⟨_, rfl, fun j hj => ?_⟩⟩
 rw [add_plain, blk_cell hb j, hc]
 simp [List.getElem?_eq_getElem hj]
/-- v reads as the headers hs -/
def Hs (w : World) (v : Value) (hs : List Hd) : Prop := ∃ A c, v = .slice A hs.length c ∧ hdr.C w A hs.length hs
theorem Hs.below {w w1 : World} {v : Value} {hs : List Hd} (h : Hs w v hs) (hb : Below w.heap.size w w1) : Hs w1 v hs := by obtain ⟨A, c, h1, h2⟩ := h; exact ⟨A, c, h1, Kd.C_below h2 hb⟩
theorem Hs.of_R {e : TypeId} {w : World} {B : Nat} {ok : Nat → Prop} {v : Value} {hs : List Hd} (h : Kd.R hdr e w B ok v hs) : Hs w v hs := by
 obtain ⟨A, c, h1, h2, h3⟩ := Kd.R_reads h
 exact ⟨A, c, h1, h3⟩
theorem Hs.len {w : World} {v : Value} {hs : List Hd} (h : Hs w v hs) : ∃ A c, v = .slice A hs.length c := by obtain ⟨A, c, h1, _⟩ := h; exact ⟨A, c, h1⟩
theorem Hs.at_ {w : World} {v : Value} {hs : List Hd} (h : Hs w v hs) {i : Nat} (hi : i < hs.length) : ∃ ad c, v = .slice (some ad) hs.length c ∧ w.cell? (ad.add i) = some (hs[i]).v := by
 obtain ⟨A, c, h1, h2⟩ := h
 obtain ⟨ad, cs, hA, hl, hK, hc⟩ := Kd.C_get h2 (none, 0, 0) i (by omega) (by omega)
 subst hA
 refine ⟨ad, c, h1, ?_⟩
 have hK' : cs = [((hs[i]).v)] := by
  have e : hs.getD ((i : Int)).toNat (none, 0, 0) = hs[i] := by simp [List.getElem?_eq_getElem hi]
  rw [e] at hK
  exact hK
 have := hc 0 _ (by rw [hK']; rfl)
 simpa [hdr, Kd.scalar] using this
theorem rows_of {k : IntKind} {e : TypeId} {w : World} {B r cap : Nat} {xs : List Nat} {ok : Nat → Prop} (h : Kd.R (nat k) e w B ok (.slice (some ⟨r, 0, none⟩) xs.length cap) xs) : (nat k).C w (some ⟨r, 0, none⟩) xs.length xs := by
 obtain ⟨A, c, h1, h2, h3⟩ := Kd.R_reads h
 injection h1 with a b c; subst a; exact h3

theorem C_take {k : IntKind} {w : World} {A : Option Addr} {ys : List Nat} {n : Nat} (h : (nat k).C w A ys.length ys) (hn : n ≤ ys.length) : (nat k).C w A n (ys.take n) := by
 refine Kd.C_of_reads (d := 0) ⟨by rw [List.length_take]; omega, by have := h.2.1; omega, fun hp => ?_⟩
 obtain ⟨ad, e, _⟩ := C_nat h 0 (by omega)
 refine ⟨ad, e, fun j hj => ?_⟩
 obtain ⟨ad', e', hc⟩ := C_nat h j (by omega)
 rw [e] at e'; injection e' with e'; subst e'
 rw [hc]
 have : gt ys j = (ys.take n).getD j 0 := by unfold gt; rw [List.getD_eq_getElem?_getD, List.getD_eq_getElem?_getD, List.getElem?_take, if_pos hj]
 rw [this]

/-- what has been lent: a list, and what it was -/
def Lent (w : World) (h h' : Hd) : Prop := ∃ (xs : List Nat) (r r' : Nat) (cs cs' : Array Value), h.1 = some ⟨r, 0, none⟩ ∧ h'.1 = some ⟨r', 0, none⟩ ∧ w.heap[r]? = some (.cells cs 50 (0, 0)) ∧ w.heap[r']? = some (.cells cs' 50 (0, 0)) ∧ h.2.1 = xs.length ∧ h'.2.1 = xs.length ∧ (nat .u32).C w h.1 xs.length xs ∧ (nat .u32).C w h'.1 xs.length xs
theorem C_at {k : IntKind} {w w1 : World} {r n : Nat} {xs : List Nat} (h : (nat k).C w (some ⟨r, 0, none⟩) n xs) (hk : w1.heap[r]? = w.heap[r]?) : (nat k).C w1 (some ⟨r, 0, none⟩) n xs := by
 refine Kd.C_of_reads (d := 0) ⟨h.1, h.2.1, fun hp => ⟨_, rfl, fun j hj => ?_⟩⟩
 obtain ⟨ad, e, hc⟩ := C_nat h j hj
 injection e with e
 subst e
 rw [add_plain] at hc ⊢
 have e2 : w1.cell? ⟨r, 0 + j, none⟩ = w.cell? ⟨r, 0 + j, none⟩ := by unfold World.cell?; rw [hk]
 rw [Nat.zero_add] at e2
 rw [e2, hc]
 rfl
theorem Lent.move {w w1 : World} {h h' : Hd} (H : Lent w h h') (hm : ∀ (k : Nat) (cs : Array Value), w.heap[k]? = some (Obj.cells cs 50 (0, 0)) → w1.heap[k]? = w.heap[k]?) : Lent w1 h h' := by
 obtain ⟨xs, r, r', cs, cs', e1, e2, h1, h2, l1, l2, c1, c2⟩ := H
 refine ⟨xs, r, r', cs, cs', e1, e2, by rw [hm r cs h1]; exact h1, by rw [hm r' cs' h2]; exact h2, l1, l2, ?_, ?_⟩
 ·rw [e1] at c1 ⊢; exact C_at c1 (hm r cs h1)
 ·rw [e2] at c2 ⊢; exact C_at c2 (hm r' cs' h2)
def Lents (w : World) (hs ws : List Hd) : Prop := hs.length = ws.length ∧ ∀ i (h1 : i < hs.length) (h2 : i < ws.length), Lent w hs[i] ws[i]
theorem Lents.nil (w : World) : Lents w [] [] := ⟨rfl, fun i h => by simp at h⟩
theorem Lents.move {w w1 : World} {hs ws : List Hd} (H : Lents w hs ws) (hm : ∀ (k : Nat) (cs : Array Value), w.heap[k]? = some (Obj.cells cs 50 (0, 0)) → w1.heap[k]? = w.heap[k]?) : Lents w1 hs ws := ⟨H.1, fun i h1 h2 => (H.2 i h1 h2).move hm⟩
theorem Lents.below {w w1 : World} {hs ws : List Hd} (H : Lents w hs ws) (hb : Below w.heap.size w w1) : Lents w1 hs ws := H.move fun k cs hk => hb.block k (blk_lt hk)
theorem Lents.set {w : World} {g t : Nat} {cs : Array Value} {hs ws : List Hd} (H : Lents w hs ws) (hK : w.heap[g]? = some (.cells cs t (0, 0))) (ht : 50 ≠ t) (i : Nat) (u : Value) : Lents (w.setCell ⟨g, i, none⟩ u) hs ws := H.move fun r cur hr => Below.heap_setCell w _ u r (blk_ne hr hK ht)
theorem Lents.grown {w w1 : World} {base : Nat} {hs ws ks : List Hd} {ok : Nat → Prop} {v : Value} (H : Lents w hs ws) (hR : hdr.R 23 w base ok v ks) (hg : w.grownBy w1 v.ownBlock) : Lents w1 hs ws := H.move fun r cur hr => hg.block r (blk_lt hr) (Kd.R_ne hR hr (by decide))
theorem Lents.snoc {w : World} {hs ws : List Hd} {h h' : Hd} (H : Lents w hs ws) (h1 : Lent w h h') : Lents w (hs ++ [h]) (ws ++ [h']) := by
 refine ⟨by simp [H.1], fun i h2 h3 => ?_⟩
 by_cases hi : i < hs.length
 ·have hi' : i < ws.length := by have := H.1; omega
  rw [List.getElem_append_left hi, List.getElem_append_left hi']; exact H.2 i hi hi'
 ·have e1 : i = hs.length := by simp at h2; omega
  subst e1
  rw [List.getElem_append_right (Nat.le_refl _), List.getElem_append_right (by have := H.1; omega)]
  simpa [H.1] using h1
theorem R_swap {e b b2 : Nat} {w : World} {ok : Nat → Prop} {v u : Value} {xs ys : List Hd} (h : hdr.R e w b ok v xs) (h2 : hdr.R e w b2 (fun k => True ∧ some k ≠ v.ownBlock) u ys) : hdr.R e w b (fun k => True ∧ some k ≠ u.ownBlock) v xs :=
 Kd.R_of_own (Kd.own_of_R h) (fun k hk => ⟨trivial, fun he => (h2.1 k he.symm).2 hk.symm⟩)
/-- all below B stays, but block g -/
structure But (B g : Nat) (w w' : World) : Prop where
 os : w'.os = w.os
 tape : w'.tape = w.tape
 output : w'.output = w.output
 size : w.heap.size ≤ w'.heap.size
 block : ∀ k, k < B → k ≠ g → w'.heap[k]? = w.heap[k]?
theorem But.refl (B g : Nat) (w : World) : But B g w w := ⟨rfl, rfl, rfl, Nat.le_refl _, fun _ _ _ => rfl⟩
theorem But.trans {B g : Nat} {a b c : World} (h : But B g a b) (k : But B g b c) : But B g a c := ⟨k.os.trans h.os, k.tape.trans h.tape, k.output.trans h.output, Nat.le_trans h.size k.size, fun i hi hn => (k.block i hi hn).trans (h.block i hi hn)⟩
theorem But.of_below {B g : Nat} {a b : World} (h : Below B a b) : But B g a b := ⟨h.os, h.tape, h.output, h.size, fun i hi _ => h.block i hi⟩
theorem But.set {B g : Nat} {a b : World} (h : But B g a b) (i : Nat) (u : Value) : But B g a (b.setCell ⟨g, i, none⟩ u) :=
 ⟨h.os, h.tape, h.output, by have := h.size; simpa [World.setCell] using this, fun k hk hn => (Below.heap_setCell b _ u k hn).trans (h.block k hk hn)⟩
theorem But.below {B g B0 : Nat} {a b : World} (h : But B g a b) (h1 : B0 ≤ B) (h2 : B0 ≤ g) : Below B0 a b := ⟨h.os, h.tape, h.output, h.size, fun i hi => h.block i (by omega) (by omega)⟩
/-- the room: what has been lent, and what it was -/
def RmS (w : World) (g B : Nat) (hs ws : List Hd) : Prop := ∃ v v2, w.heap[g]? = some (.cells #[v, v2, .slice none 0 0, .slice none 0 0, .slice none 0 0, .slice none 0 0, .slice none 0 0, .slice none 0 0] 37 (0, 0)) ∧ hdr.R 23 w B (fun _ => True) v hs ∧ hdr.R 23 w B (fun k => True ∧ some k ≠ v.ownBlock) v2 ws ∧ Lents w hs ws
theorem RmS.new {w : World} {g B : Nat} (h : w.heap[g]? = some (.cells #[.slice none 0 0, .slice none 0 0, .slice none 0 0, .slice none 0 0, .slice none 0 0, .slice none 0 0, .slice none 0 0, .slice none 0 0] 37 (0, 0))) : RmS w g B [] [] := ⟨_, _, h, Kd.R_nil _ _ _ _ _, Kd.R_apart_nil (Kd.R_nil _ _ _ _ _), Lents.nil _⟩
theorem RmS.moveT (T : TypeId) (t1 : 23 ≠ T) (t2 : 37 ≠ T) (t3 : 50 ≠ T) {w w1 : World} {g B : Nat} {hs ws : List Hd} (h : RmS w g B hs ws) (hm : ∀ (k : Nat) (cs : Array Value) (t : TypeId), w.heap[k]? = some (Obj.cells cs t (0, 0)) → t ≠ T → w1.heap[k]? = w.heap[k]?) : RmS w1 g B hs ws := by
 obtain ⟨v, v2, h1, h2, h3, h4⟩ := h
 have mv : ∀ {ok : Nat → Prop} {u : Value} {xs : List Hd}, hdr.R 23 w B ok u xs → hdr.R 23 w1 B ok u xs := fun h => Kd.R_mono (Kd.R_move (Kd.R_bound h) (fun k hk => by
  obtain ⟨_, _, _, q, hq, cells, hc⟩ := hk
  have e : q = 23 := by simpa [hdr, Kd.scalar] using hq
  exact hm k cells q hc (by rw [e]; exact t1))) (fun _ hk => hk.1)
 exact ⟨v, v2, by rw [hm g _ _ h1 t2]; exact h1, mv h2, mv h3, h4.move (fun k cs hk => hm k cs _ hk t3)⟩
theorem RmS.move {w w1 : World} {g B : Nat} {hs ws : List Hd} (h : RmS w g B hs ws) (hm : ∀ (k : Nat) (cs : Array Value) (t : TypeId), w.heap[k]? = some (Obj.cells cs t (0, 0)) → t ≠ 34 → w1.heap[k]? = w.heap[k]?) : RmS w1 g B hs ws := by
 obtain ⟨v, v2, h1, h2, h3, h4⟩ := h
 have mv : ∀ {ok : Nat → Prop} {u : Value} {xs : List Hd}, hdr.R 23 w B ok u xs → hdr.R 23 w1 B ok u xs := fun h => Kd.R_mono (Kd.R_move (Kd.R_bound h) (fun k hk => by
  obtain ⟨_, _, _, q, hq, cells, hc⟩ := hk
  have e : q = 23 := by simpa [hdr, Kd.scalar] using hq
  exact hm k cells q hc (by rw [e]; decide))) (fun _ hk => hk.1)
 exact ⟨v, v2, by rw [hm g _ _ h1 (by decide)]; exact h1, mv h2, mv h3, h4.move (fun k cs hk => hm k cs _ hk (by decide))⟩
theorem RmS.below {w w1 : World} {g B : Nat} {hs ws : List Hd} (h : RmS w g B hs ws) (hb : Below w.heap.size w w1) : RmS w1 g B hs ws := h.move fun k cs t hk _ => hb.block k (blk_lt hk)
theorem RmS.but {w w1 : World} {g B gk C : Nat} {hs ws : List Hd} {cs : Array Value} (h : RmS w g B hs ws) (hC : w.heap.size ≤ C) (hk : w.heap[gk]? = some (.cells cs 34 (0, 0))) (hb : But C gk w w1) : RmS w1 g B hs ws := h.move fun k cs' t hk' ht => hb.block k (by have := blk_lt hk'; omega) (fun e => by subst e; rw [hk] at hk'; injection hk' with hk'; injection hk' with _ e; exact ht e.symm)
set_option maxHeartbeats 8000000 in
set_option maxRecDepth 100000 in
theorem lend (g B : Nat) (A : Option Addr) (cap : Nat) (l : List Nat) (hs ws : List Hd) (w : World) (hK : RmS w g B hs ws) (hBs : B ≤ w.heap.size) (hC : (nat .u32).C w A l.length l) (hcap : l.length ≤ cap) (hb : l.length * 4 ≤ 140737488351232) (hlen : hs.length ≤ 4000000000000) :
    Calls Try.prog 43 #[.pointer (some ⟨g, 0, none⟩), .slice A l.length cap] w fun e w' => ∃ r c cells hs' ws', e = .returned (.slice (some ⟨r, 0, none⟩) l.length c) ∧ l.length ≤ c ∧ w.heap.size ≤ r ∧ (nat .u32).C w' (some ⟨r, 0, none⟩) l.length l ∧ w'.heap[r]? = some (.cells cells 50 (0, 0)) ∧ RmS w' g B hs' ws' ∧ hs'.length = hs.length + 1 ∧ But B g w w' ∧ ∀ (k : Nat) (cs : Array Value) (t : TypeId), w.heap[k]? = some (Obj.cells cs t (0, 0)) → t = 50 ∨ t = 25 → w'.heap[k]? = w.heap[k]? := by
 obtain ⟨v, v2, h1, h2, h3, h4⟩ := hK
 have HLW : Aside0 (ws.length ≤ 4000000000000) := ⟨by rw [← h4.1]; exact hlen⟩
 obtain ⟨Av, cv, rfl, _, _⟩ := Kd.R_reads h2
 obtain ⟨Au, cu, rfl, _, _⟩ := Kd.R_reads h3
 have HG := Aside0.mk h1
 have HV := Aside0.mk h2
 have HU := Aside0.mk h3
 have HL := Aside0.mk h4
 have HC := Aside0.mk hC
 clear h1 h2 h3 h4 hC
 go_enter Try.func43, Try.ntmps43
 go_wp2_with (first | ((with_reducible refine gate_dst (N := 10) rfl ?_); refine Kd.R_make (nat .u32) (w0 := w) w.heap.size 50 rfl (N := 10) rfl 23 (.tmp 9) (.tmp 9) rfl ((l.length : Int) + 5) rfl rfl Try.underlying23 (.int .u32 0) 4 info50 rfl (by decide) (by omega) 0 (ok := fun _ => True) (okp := fun _ => False) rfl (fun _ h => h.elim) trivial (by omega) (by omega) (Below.refl _ _) (Nat.le_refl _) ?_; intro v1 w1 hR1 hB1 hg1 hat1; have R1 := Aside0.mk hR1; have B1 := Aside0.mk hB1; clear hR1 hB1 hg1 hat1) | ((with_reducible refine gate_builtin (b := .copy) (xs := #[.tmp 11, .tmp 12]) rfl ?_); refine Kd.R_copy (enc := fun x : Nat => Value.int .u32 x) (h1 := fun _ => rfl) 0 (w0 := w) w.heap.size rfl (.tmp 11) (.tmp 12) 23 23 50 rfl Try.underlying23 (by kernel_rfl) v1 (List.replicate ((l.length : Int) + 5).toNat 0) l A l.length cap (fun _ => True) rfl rfl R1.out (Kd.C_below HC.out B1.out) B1.out B1.out.size ?_; intro w2 hR1 hB1 hg1; have R2 := Aside0.mk hR1; have B2 := Aside0.mk hB1; clear hR1 hB1 hg1))
 obtain ⟨ys0, hy0⟩ : ∃ ys0 : List Nat, ys0 = l.take (min l.length (List.replicate ((l.length : Int) + 5).toNat 0).length) ++ (List.replicate ((l.length : Int) + 5).toNat 0).drop (min l.length (List.replicate ((l.length : Int) + 5).toNat 0).length) := ⟨_, rfl⟩
 have hn5 : ((l.length : Int) + 5).toNat = l.length + 5 := by omega
 have hmin : min l.length (l.length + 5) = l.length := by omega
 have h1 : ys0.length = l.length + 5 := by rw [hy0, hn5, List.length_replicate, hmin]; simp
 have h2 : ys0.take l.length = l := by rw [hy0, hn5, List.length_replicate, hmin]; simp
 have R3 : Aside0 (Kd.R (nat .u32) 50 w2 w.heap.size (fun _ => True) v1 ys0) := ⟨by rw [hy0]; exact R2.out⟩
 obtain ⟨r, cap0, hv, hr, hrl, cells, hrb⟩ := Kd.R_form R3.out (by omega)
 rw [h1] at hv
 subst hv
 have HRB := Aside0.mk hr
 have H2 := Aside0.mk h2
 have hcap0 : Aside0 (l.length + 5 ≤ cap0) := ⟨by obtain ⟨A', c', e1, e2, _⟩ := Kd.R_reads R3.out; injection e1 with _ _ e3; omega⟩
 clear hy0 hn5 hmin R2 h2 hrl hrb hr
 go_loopw [6] (fun v wr => ∃ (j : Nat) (ys : List Nat), l.length ≤ j ∧ j ≤ l.length + 5 ∧ v = .int .i64 j ∧ ys.length = l.length + 5 ∧ Aside0 (ys.take l.length = l) ∧ Aside0 (Kd.R (nat .u32) 50 wr w.heap.size (fun _ => True) (.slice (some ⟨r, 0, none⟩) (l.length + 5) cap0) ys) ∧ Aside0 (Below w.heap.size w wr)) (fun v _ => l.length + 5 - (intOf v).toNat)
 case atStart => exact ⟨l.length, ys0, by omega, by omega, rfl, h1, H2, R3, B2⟩
 case round =>
  obtain ⟨j, ys, hj0, hj, rfl, hyl, HT, R4, B4⟩ := hrel
  by_cases hlt : j < l.length + 5
  ·have x0 := (Kd.R_cell (d := 0) (by have h := R4.out; rw [← hyl] at h; exact h) (j : Int) (by omega) (by omega)).1
   obtain ⟨r', cap', hv, hr1, hr2, cells', hrb⟩ := Kd.R_form R4.out (by omega)
   injection hv with hv _ _
   injection hv with hv
   injection hv with hv _ _
   subst hv
   rw [Int.toNat_natCast] at x0
   have x1 := blk_frozen hrb j
   obtain ⟨x, hx⟩ : ∃ x : Nat, x = (2141192202 + j) % 4294967296 := ⟨_, rfl⟩
   have hw1 : IntKind.u32.wrap (2141192202 + (j : Int)) = (x : Int) := by simp only [IntKind.wrap_u32]; omega
   have hw2 : ((2141192202 : Int) + (j : Int)) % 4294967296 = (x : Int) := by omega
   have HYL := Aside0.mk hyl
   have HRB2 := Aside0.mk hrb
   clear hx hrb hyl
   go_wp2
   go_roundw
   case measure => simp [intOf]; omega
   case rel =>
    have hp := Kd.R_putn R4.out (j : Int) x
    rw [Int.toNat_natCast] at hp
    exact ⟨j + 1, ys.set j x, by omega, by omega, by go_num, by rw [List.length_set]; exact HYL.out, ⟨by rw [List.take_set, List.set_eq_of_length_le (by simp; omega)]; exact HT.out⟩, ⟨hp⟩, ⟨B4.out.setCell (p := ⟨r, j, none⟩) HRB.out _⟩⟩
  ·obtain rfl : j = l.length + 5 := by omega
   have R5 : Aside0 (Kd.R (nat .u32) 50 wr w.heap.size (fun _ => True) (.slice (some ⟨r, 0, none⟩) ys.length cap0) ys) := ⟨by have h := R4.out; rw [← hyl] at h; exact h⟩
   have HG4 := Aside0.mk (blk_below HG.out B4.out)
   have V4 := Aside0.mk (Kd.R_below HV.out B4.out)
   have U4 := Aside0.mk (Kd.R_below HU.out B4.out)
   have L4 : Aside0 (Lents wr hs ws) := ⟨HL.out.below B4.out⟩
   have S4 : Aside0 (B ≤ wr.heap.size) := ⟨Nat.le_trans hBs B4.out.size⟩
   have hg0 := (blk_cell HG4.out 0).trans rfl
   have fg0 := blk_frozen HG4.out 0
   obtain ⟨hs', hh⟩ : ∃ hs' : List Hd, hs' = hs ++ [(some ⟨r, 0, none⟩, l.length + 5, cap0)] := ⟨_, rfl⟩
   have HH := Aside0.mk hh
   clear hh
   go_wp2_with ((with_reducible refine gate_builtin (b := .append) (xs := #[.tmp 32, .tmp 34]) rfl ?_); at_builtin; refine Kd.R_append_row Hd.v (none, 0, 0) (h1 := fun _ => rfl) (w0 := wr) B rfl (.tmp 32) (.tmp 34) 27 23 (.slice none 0 0) 24 rfl Try.underlying27 infoH rfl (by omega) (.slice Av hs.length cv) hs [(some ⟨r, 0, none⟩, l.length + 5, cap0)] _ 1 1 (fun _ => True) rfl rfl (fun _ _ => trivial) (Kd.R_alloc V4.out _) (hdr_new [(some ⟨r, 0, none⟩, l.length + 5, cap0)] (blk_new _ _) rfl (by simp)) ((Below.refl B wr).alloc S4.out _) ?aS ?aL ?_; (case aS => exact ((Below.refl B wr).alloc S4.out _).size |> Nat.le_trans S4.out); (case aL => omega); intro v5 w5 hR1 hB1 hg1 hat1; rw [← HH.out] at hR1; obtain ⟨A5, c5, rfl, hc5, hC5⟩ := Kd.R_reads hR1; have V5 := Aside0.mk hR1; have B5 := Aside0.mk hB1; have U5 := Aside0.mk (Kd.R_after (Kd.R_alloc U4.out _) hg1 hat1); have R6 := Aside0.mk (Kd.R_over (Kd.R_alloc R5.out _) (Kd.R_alloc V4.out _) (by decide) hg1); have L5 : Aside0 (Lents w5 hs ws) := ⟨(L4.out.below ((Below.refl _ _).alloc (Nat.le_refl _) _)).grown (Kd.R_alloc V4.out _) hg1⟩; have HG5 := Aside0.mk (blk_grown (blk_alloc HG4.out _) hg1 (Kd.R_ne V4.out HG4.out (by decide))); have X5 : Aside0 (∀ (k : Nat) (cs : Array Value) (t : TypeId), wr.heap[k]? = some (Obj.cells cs t (0, 0)) → t = 50 ∨ t = 25 → w5.heap[k]? = wr.heap[k]?) := ⟨fun k cs t hk ht => (hg1.block k (by have := blk_lt (blk_alloc hk (.cells #[.slice (some ⟨r, 0, none⟩) (l.length + 5) cap0] 23 (0, 0))); exact this) (Kd.R_ne V4.out hk (by rcases ht with rfl | rfl <;> decide))).trans ((blk_alloc hk _).trans hk.symm)⟩; clear hR1 hB1 hg1 hat1 hC5; have fg5 := blk_frozen HG5.out 0; have hg5 := (blk_cell HG5.out 0).trans rfl)
   obtain ⟨W, hW⟩ : ∃ W, W = w5.setCell ⟨g, 0, none⟩ (.slice A5 hs'.length c5) := ⟨_, rfl⟩
   have KW : Aside0 (W.heap[g]? = some (.cells #[.slice A5 hs'.length c5, .slice Au ws.length cu, .slice none 0 0, .slice none 0 0, .slice none 0 0, .slice none 0 0, .slice none 0 0, .slice none 0 0] 37 (0, 0))) := ⟨by rw [hW]; exact (blk_set HG5.out 0 _).trans rfl⟩
   have VW : Aside0 (hdr.R 23 W B (fun _ => True) (.slice A5 hs'.length c5) hs') := ⟨by rw [hW]; exact Kd.R_set V5.out HG5.out (by decide) 0 _⟩
   have UW : Aside0 (hdr.R 23 W B (fun k => True ∧ some k ≠ (Value.slice A5 hs'.length c5).ownBlock) (.slice Au ws.length cu) ws) := ⟨by rw [hW]; exact Kd.R_set U5.out HG5.out (by decide) 0 _⟩
   have LW : Aside0 (Lents W hs ws) := ⟨by rw [hW]; exact L5.out.set HG5.out (by decide) 0 _⟩
   have RW : Aside0 (Kd.R (nat .u32) 50 W w.heap.size (fun _ => True) (.slice (some ⟨r, 0, none⟩) ys.length cap0) ys) := ⟨by rw [hW]; exact Kd.R_set R6.out HG5.out (by decide) 0 _⟩
   have TW : Aside0 (But B g w W) := ⟨by rw [hW]; exact ((But.of_below (B4.out.mono hBs)).trans (.of_below B5.out)).set 0 _⟩
   have XW : Aside0 (∀ (k : Nat) (cs : Array Value) (t : TypeId), wr.heap[k]? = some (Obj.cells cs t (0, 0)) → t = 50 ∨ t = 25 → W.heap[k]? = wr.heap[k]?) := ⟨fun k cs t hk ht => by rw [hW]; exact (Below.heap_setCell w5 _ _ k (fun e => by have e : k = g := e; subst e; rw [HG4.out] at hk; injection hk with hk; injection hk with _ e; rcases ht with rfl | rfl <;> exact absurd e (by decide))).trans (X5.out k cs t hk ht)⟩
   rw [← hW]
   have K8 := Aside0.mk (blk_drew KW.out)
   have V8 := Aside0.mk (Kd.R_drew VW.out)
   have U8 := Aside0.mk (Kd.R_drew UW.out)
   have L8 : Aside0 (Lents W.drew hs ws) := ⟨LW.out.below (pw_below_drewN (Below.refl _ W) 1)⟩
   have R8 := Aside0.mk (Kd.R_drew RW.out)
   have T8 : Aside0 (But B g w W.drew) := ⟨TW.out.trans (.of_below (pw_below_drewN (Below.refl _ W) 1))⟩
   have G8 : Aside0 (B ≤ W.drew.heap.size) := ⟨Nat.le_trans hBs T8.out.size⟩
   have HYL := Aside0.mk hyl
   clear hW hyl
   refine start_ (n := 12) (S := fun w' => w'.cell? ⟨g, 1, none⟩ = some (.slice Au ws.length cu)) (ds := [11]) #[ff_,ff_,ff_,ff_,ff_,ff_,ff_,ff_,ff_,ff_,ff_,ff_] (by kernel_rfl) rfl rfl ((blk_cell K8.out 1).trans rfl) (fun hHeld => ?_)
   refine pure_ (i := 0) (N := some 38) (v := ?_) (a' := ?_) #[tt_,ff_,ff_,ff_,ff_,ff_,ff_,ff_,ff_,ff_,ff_,ff_] rfl rfl (by kernel_rfl) (fun _ _ _ h => h) (Or.inl ⟨by rfl, ?_⟩) ?_ ?_
   rotate_left
   ·intro w'
    go_simp
    with_reducible rfl
   rotate_left
   ·simp only [Act.put, List.setIfInBounds_toArray, List.set_cons_zero, List.set_cons_succ, i64_w, i32_w]
    rfl
   refine pure_ (i := 1) (N := some 39) (v := ?_) (a' := ?_) #[tt_,tt_,ff_,ff_,ff_,ff_,ff_,ff_,ff_,ff_,ff_,ff_] rfl rfl (by kernel_rfl) (fun _ _ _ h => h) (Or.inl ⟨by rfl, ?_⟩) ?_ ?_
   rotate_left
   ·intro w'
    go_simp
    with_reducible rfl
   rotate_left
   ·simp only [Act.put, List.setIfInBounds_toArray, List.set_cons_zero, List.set_cons_succ, i64_w, i32_w]
    rfl
   refine pure_ (i := 2) (N := some 40) (v := ?_) (a' := ?_) #[tt_,tt_,tt_,ff_,ff_,ff_,ff_,ff_,ff_,ff_,ff_,ff_] rfl rfl (by kernel_rfl) (fun _ _ _ h => h) (Or.inl ⟨by rfl, ?_⟩) ?_ ?_
   rotate_left
   ·intro w'
    go_simp
    with_reducible rfl
   rotate_left
   ·simp only [Act.put, List.setIfInBounds_toArray, List.set_cons_zero, List.set_cons_succ, i64_w, i32_w]
    rfl
   refine pure_ (i := 3) (N := some 41) (v := ?_) (a' := ?_) #[tt_,tt_,tt_,tt_,ff_,ff_,ff_,ff_,ff_,ff_,ff_,ff_] rfl rfl (by kernel_rfl) (fun _ _ _ h => h) (Or.inl ⟨by rfl, ?_⟩) ?_ ?_
   rotate_left
   ·intro w'
    go_simp
    with_reducible rfl
   rotate_left
   ·simp only [Act.put, List.setIfInBounds_toArray, List.set_cons_zero, List.set_cons_succ, i64_w, i32_w]
    rfl
   refine pure_ (i := 5) (N := some 43) (v := ?_) (a' := ?_) #[tt_,tt_,tt_,tt_,ff_,tt_,ff_,ff_,ff_,ff_,ff_,ff_] rfl rfl (by kernel_rfl) (fun _ _ _ h => h) (Or.inl ⟨by rfl, ?_⟩) ?_ ?_
   rotate_left
   ·intro w'
    go_simp
    with_reducible rfl
   rotate_left
   ·simp only [Act.put, List.setIfInBounds_toArray, List.set_cons_zero, List.set_cons_succ, i64_w, i32_w]
    rfl
   refine take_ (i := 4) (N := some 42) (v := ?_) (a' := ?_) #[tt_,tt_,tt_,tt_,tt_,tt_,ff_,ff_,ff_,ff_,ff_,ff_] rfl rfl (by kernel_rfl) (fun _ _ _ h => h) (Or.inl ⟨by rfl, ?_⟩) hHeld ?_ ?_
   rotate_left
   ·intro w' s0
    go_simp
    with_reducible rfl
   rotate_left
   ·simp only [Act.put, List.setIfInBounds_toArray, List.set_cons_zero, List.set_cons_succ, i64_w, i32_w]
    rfl
   refine one_ (i := 6) (N := some 44) #[tt_,tt_,tt_,tt_,tt_,tt_,tt_,ff_,ff_,ff_,ff_,ff_] rfl rfl (by kernel_rfl) (by decide) (fun K hK => ?_)
   refine Kd.R_append_rows_step (nat .u32) (Rr := (nat .u32).K W.drew) (w0 := _) W.drew.heap.size (by rfl) (.const (.slice none 0 0)) (.tmp 43) 23 50 (.int .u32 0) 4 rfl Try.underlying23 info50 rfl (by decide) (by omega) (.slice none 0 0) [] ys (some ⟨r, 0, none⟩) (l.length + 5) cap0 (fun _ => True) (fun _ => False) rfl rfl (Kd.R_nil _ _ _ _ _) ?aR (fun x cs h => h) (fun _ h => h.elim) (fun _ _ => trivial) (Below.refl _ _) ?aS ?aL ?_
   (case aR => have h := rows_of R8.out; rw [HYL.out] at h; exact h)
   (case aS => exact Nat.le_refl _)
   (case aL => simp; omega)
   intro v6 w6 hR1 hB1 hg1 hat1
   rw [List.nil_append] at hR1
   obtain ⟨A6, c6, rfl, hc6, hC6⟩ := Kd.R_reads hR1
   have Y6 := Aside0.mk hR1
   have B6 := Aside0.mk hB1
   have K6 := Aside0.mk (blk_grown K8.out hg1 (by intro h; cases h))
   have V6 := Aside0.mk (Kd.R_below V8.out B6.out)
   have U6 := Aside0.mk (Kd.R_below U8.out B6.out)
   have L6 : Aside0 (Lents w6 hs ws) := ⟨L8.out.below B6.out⟩
   have R6b := Aside0.mk (Kd.R_below R8.out B6.out)
   obtain ⟨ws', hwq⟩ : ∃ ws' : List Hd, ws' = ws ++ [(A6, ys.length, c6)] := ⟨_, rfl⟩
   have HW2 := Aside0.mk hwq
   clear hR1 hB1 hat1 hg1 hC6 hwq
   refine hK.out _ _ ((blk_cell K6.out 1).trans rfl) (fun hHeld => ?_)
   clear hK K
   refine norm_ (a' := ?_) ?_ ?_
   rotate_left
   ·show Act.put _ (some 44) _ = _
    simp only [Act.put, List.setIfInBounds_toArray, List.set_cons_zero, List.set_cons_succ, i64_w, i32_w]
    rfl
   refine one_ (i := 7) (N := some 45) #[tt_,tt_,tt_,tt_,tt_,tt_,tt_,tt_,ff_,ff_,ff_,ff_] rfl rfl (by kernel_rfl) (by decide) (fun K hK => ?_)
   refine value_ (w1 := ?_) (v := ?_) (by rfl) rfl ?_ ?_
   rotate_left 2
   ·go_simp
    constructor
    ·rfl
    ·rfl
   refine hK.out _ _ ((blk_cell (blk_alloc K6.out _) 1).trans rfl) (fun hHeld => ?_)
   clear hK K
   refine norm_ (a' := ?_) ?_ ?_
   rotate_left
   ·show Act.put _ (some 45) _ = _
    simp only [Act.put, List.setIfInBounds_toArray, List.set_cons_zero, List.set_cons_succ, i64_w, i32_w]
    rfl
   refine one_ (i := 8) (N := some 46) #[tt_,tt_,tt_,tt_,tt_,tt_,tt_,tt_,tt_,ff_,ff_,ff_] rfl rfl (by kernel_rfl) (by decide) (fun K hK => ?_)
   refine Kd.R_append_step hdr (w0 := W.drew) B (by rfl) (.tmp 42) (.tmp 45) 27 23 (.slice none 0 0) 24 rfl Try.underlying27 infoH rfl (by decide) (by omega) (.slice Au ws.length cu) ws (A6, ys.length, c6) [.slice A6 ys.length c6] (fun k => True ∧ some k ≠ (Value.slice A5 hs'.length c5).ownBlock) (fun _ => False) rfl rfl ?aP (fun _ hk => hk.elim) ?aF U6.out (B6.out.mono G8.out) ?aS ?aL ?_
   (case aP => exact rfl)
   (case aF => exact fun k hk => ⟨trivial, fun he => absurd (own_lt (Kd.own_of_R V6.out) k he.symm) (by omega)⟩)
   (case aS => exact Nat.le_trans G8.out B6.out.size)
   (case aL => have := HLW.out; omega)
   intro v7 w7 hR1 hB1 hg1 hat1
   rw [← HW2.out] at hR1
   have U7 := Aside0.mk hR1
   have B7 := Aside0.mk hB1
   have K7 := Aside0.mk (blk_grown K6.out hg1 (Kd.R_ne U6.out K6.out (by decide)))
   have V7 := Aside0.mk (Kd.R_mono (Kd.R_grown (R_swap V6.out U6.out) hg1 (fun k hk => hk.2)) (fun _ _ => trivial))
   have L7 : Aside0 (Lents w7 hs ws) := ⟨L6.out.grown U6.out hg1⟩
   have R7 := Aside0.mk (Kd.R_over R6b.out U6.out (by decide) hg1)
   have Y7 := Aside0.mk (Kd.R_over Y6.out U6.out (by decide) hg1)
   have X7 : Aside0 (∀ (k : Nat) (cs : Array Value) (t : TypeId), W.drew.heap[k]? = some (Obj.cells cs t (0, 0)) → t = 50 ∨ t = 25 → w7.heap[k]? = W.drew.heap[k]?) := ⟨fun k cs t hk ht => (hg1.block k (by have := blk_lt hk; have := B6.out.size; omega) (Kd.R_ne U6.out ((B6.out.block k (blk_lt hk)).trans hk) (by rcases ht with rfl | rfl <;> decide))).trans (B6.out.block k (blk_lt hk))⟩
   obtain ⟨A7, c7, rfl, hc7, hC7⟩ := Kd.R_reads hR1
   clear hR1 hB1 hat1 hg1 hC7
   refine hK.out _ _ ((blk_cell K7.out 1).trans rfl) (fun hHeld => ?_)
   clear hK K
   refine norm_ (a' := ?_) ?_ ?_
   rotate_left
   ·show Act.put _ (some 46) _ = _
    simp only [Act.put, List.setIfInBounds_toArray, List.set_cons_zero, List.set_cons_succ, i64_w, i32_w]
    rfl
   refine pure_ (i := 9) (N := some 47) (v := ?_) (a' := ?_) #[tt_,tt_,tt_,tt_,tt_,tt_,tt_,tt_,tt_,tt_,ff_,ff_] rfl rfl (by kernel_rfl) (fun _ _ _ h => h) (Or.inl ⟨by rfl, ?_⟩) ?_ ?_
   rotate_left
   ·intro w'
    go_simp
    with_reducible rfl
   rotate_left
   ·simp only [Act.put, List.setIfInBounds_toArray, List.set_cons_zero, List.set_cons_succ, i64_w, i32_w]
    rfl
   refine pure_ (i := 10) (N := some 48) (v := ?_) (a' := ?_) #[tt_,tt_,tt_,tt_,tt_,tt_,tt_,tt_,tt_,tt_,tt_,ff_] rfl rfl (by kernel_rfl) (fun _ _ _ h => h) (Or.inl ⟨by rfl, ?_⟩) ?_ ?_
   rotate_left
   ·intro w'
    go_simp
    with_reducible rfl
   rotate_left
   ·simp only [Act.put, List.setIfInBounds_toArray, List.set_cons_zero, List.set_cons_succ, i64_w, i32_w]
    rfl
   refine last_ (i := 11) (N := none) #[tt_,tt_,tt_,tt_,tt_,tt_,tt_,tt_,tt_,tt_,tt_,tt_] rfl rfl (by kernel_rfl) (by decide) (fun K hK => ?_)
   have f1 := blk_frozen K7.out 1
   refine skip_ (w1 := ?_) (by rfl) rfl ?_ ?_
   rotate_left
   ·go_simp
    rfl
   refine hK.out _ _ ?_
   clear hK K
   refine done_ (by kernel_rfl) ?_
   have hcl : l.length ≤ cap0 := by have := hcap0.out; omega
   try go_wp2
   go_ret
   have KF : (w7.setCell ⟨g, 1, none⟩ (.slice A7 ws'.length c7)).heap[g]? = some (.cells #[.slice A5 hs'.length c5, .slice A7 ws'.length c7, .slice none 0 0, .slice none 0 0, .slice none 0 0, .slice none 0 0, .slice none 0 0, .slice none 0 0] 37 (0, 0)) := (blk_set K7.out 1 _).trans rfl
   have VF := Kd.R_set V7.out K7.out (by decide) 1 (.slice A7 ws'.length c7)
   have UF := Kd.R_set U7.out K7.out (by decide) 1 (.slice A7 ws'.length c7)
   have RF := Kd.R_set R7.out K7.out (by decide) 1 (.slice A7 ws'.length c7)
   have CF := Kd.R_set Y7.out K7.out (by decide) 1 (.slice A7 ws'.length c7)
   have LF := L7.out.set K7.out (by decide) 1 (.slice A7 ws'.length c7)
   obtain ⟨r1, cap1, hv1, _, _, cells1, hrb1⟩ := Kd.R_form RF (by have := HYL.out; omega)
   injection hv1 with hv1 _ _
   injection hv1 with hv1
   injection hv1 with hv1 _ _
   subst hv1
   obtain ⟨r2, cap2, hv2, _, _, cells2, hrb2⟩ := Kd.R_form CF (by have := HYL.out; omega)
   injection hv2 with hv2 _ hv3
   subst hv2 hv3
   have hC1 := rows_of RF
   have hC3 := rows_of CF
   have hC2 := C_take hC1 (n := l.length) (by have := HYL.out; omega)
   rw [HT.out] at hC2
   refine ⟨r, cap0, cells1, hs', ws', rfl, by have := hcap0.out; omega, HRB.out, hC2, hrb1, ⟨_, _, KF, VF, UF, ?_⟩, by rw [HH.out]; simp, (T8.out.trans (.of_below B7.out)).set 1 _, ?_⟩
   ·have h9 := LF.snoc (h := (some ⟨r, 0, none⟩, l.length + 5, cap0)) (h' := (some ⟨r2, 0, none⟩, ys.length, c6)) ⟨ys, r, r2, cells1, cells2, rfl, rfl, hrb1, hrb2, HYL.out.symm, rfl, hC1, hC3⟩
    rw [← HH.out, ← HW2.out] at h9
    exact h9
   ·intro k cs t hk ht
    have e1 : wr.heap[k]? = w.heap[k]? := B4.out.block k (blk_lt hk)
    have e2 := XW.out k cs t (e1.trans hk) ht
    have e3 : W.drew.heap[k]? = W.heap[k]? := (pw_below_drewN (Below.refl _ W) 1).block k (by have := blk_lt (e2.trans (e1.trans hk)); exact this)
    have e4 := X7.out k cs t (e3.trans (e2.trans (e1.trans hk))) ht
    exact (Below.heap_setCell w7 _ _ k (fun e => by have e : k = g := e; subst e; have h9 := e4.trans (e3.trans (e2.trans (e1.trans hk))); rw [K7.out] at h9; injection h9 with h9; injection h9 with _ e; rcases ht with rfl | rfl <;> exact absurd e (by decide))).trans (e4.trans (e3.trans (e2.trans e1)))
end Go.Proofs.Ytodlgdpkadkjjaa.A
end
section
set_option linter.unusedVariables false
set_option linter.unusedSimpArgs false
namespace Go.Proofs.Ytodlgdpkadkjjaa.A
open Go.RowKit Go.Shelf Go.Proofs.YtodlgdpkadkjjaaW.PrintWords Go.Proofs.YtodlgdpkadkjjaaW.PrintLast Go.Proofs.YtodlgdpkadkjjaaW.PrintMore 
theorem Hs.bound {w : World} {v : Value} {hs : List Hd} (h : Hs w v hs) : hs.length ≤ 9223372036854775807 := by obtain ⟨A, c, h1, h2⟩ := h; exact h2.2.1
set_option maxHeartbeats 8000000 in
set_option maxRecDepth 100000 in
theorem roomHold (g B : Nat) (hs ws : List Hd) (w : World) (hR : RmS w g B hs ws) : Calls Try.prog 22 #[.pointer (some ⟨g, 0, none⟩)] w fun e w' => e = .returned (.bool true) ∧ Below w.heap.size w w' := by
 obtain ⟨v0, v1, h1, h2', h3', h6⟩ := hR
 have h2 := Hs.of_R h2'
 have h3 := Hs.of_R h3'
 have HG := Aside0.mk h1
 have H0 := Aside0.mk h2
 have H1 := Aside0.mk h3
 have S0 := Aside0.mk h6
 have l0 := h2.bound
 obtain ⟨A0, c0, rfl⟩ := h2.len
 obtain ⟨A1, c1, rfl⟩ := h3.len
 clear h1 h2 h3 h6 h2' h3'
 go_enter Try.func22, Try.ntmps22
 go_wp2
 go_loopw [3] (fun v wr => ∃ (n : Nat), n ≤ hs.length ∧ v = .int .i64 n ∧ Aside0 (Below w.heap.size w wr)) (fun v _ => hs.length - (intOf v).toNat)
 case atStart => exact ⟨0, by omega, rfl, ⟨Below.refl _ _⟩⟩
 case round =>
  obtain ⟨n, hn, rfl, HB⟩ := hrel
  have hg0 := (blk_cell (blk_below HG.out HB.out) 0).trans rfl
  have hg1 := (blk_cell (blk_below HG.out HB.out) 1).trans rfl
  by_cases hlt : n < hs.length
  ·have hlt' : n < ws.length := by have := S0.out.1; omega
   obtain ⟨ad, c, e1, hx⟩ := Hs.at_ (H0.out.below HB.out) hlt
   injection e1 with e1 _ e1'
   obtain ⟨ad', c', e2, hy⟩ := Hs.at_ (H1.out.below HB.out) hlt'
   injection e2 with e2 _ e2'
   subst e1 e1' e2 e2'
   obtain ⟨xs, _, _, _, _, _, _, _, _, m1, m2, C1, C2⟩ := (S0.out.below HB.out).2 n hlt hlt'
   obtain ⟨⟨B1, n1, d1⟩, hh1⟩ : ∃ h : Hd, h = hs[n] := ⟨_, rfl⟩
   obtain ⟨⟨B2, n2, d2⟩, hh2⟩ : ∃ h : Hd, h = ws[n] := ⟨_, rfl⟩
   rw [← hh1] at hx m1 C1
   rw [← hh2] at hy m2 C2
   simp only [Hd.v] at hx hy m1 m2 C1 C2
   subst m1 m2
   have lx := C1.2.1
   have C1 := Aside0.mk C1
   have C2 := Aside0.mk C2
   have HX := Aside0.mk hx
   have HY := Aside0.mk hy
   clear hh1 hh2 hx hy
   go_wp2
   repeat (go_quiet (fail); try go_wp2)
   go_loopw [4] (fun v wr2 => ∃ (i : Nat), i ≤ xs.length ∧ v = .int .i64 i ∧ Aside0 (Below wr.heap.size wr wr2)) (fun v _ => xs.length - (intOf v).toNat)
   case atStart => exact ⟨0, by omega, rfl, ⟨Below.refl _ _⟩⟩
   case round =>
    obtain ⟨i, hi, rfl, HB2⟩ := hrel
    have hg0 := pw_cell_below HB2.out hg0
    have hg1 := pw_cell_below HB2.out hg1
    have hx := pw_cell_below HB2.out HX.out
    have hy := pw_cell_below HB2.out HY.out
    by_cases hlt2 : i < xs.length
    ·obtain ⟨ad3, rfl, z1⟩ := C_nat (Kd.C_below C1.out HB2.out) i hlt2
     obtain ⟨ad4, rfl, z2⟩ := C_nat (Kd.C_below C2.out HB2.out) i hlt2
     go_wp2
     repeat (go_quiet (fail); try go_wp2)
     go_roundw
     case measure => simp [intOf]; omega
     case rel => first | exact ⟨i + 1, by omega, by go_num, ⟨pw_below_drewN HB2.out _⟩⟩ | ((repeat apply Exists.intro); exact ⟨⟨i + 1, by omega, by go_num, ⟨pw_below_drewN HB2.out _⟩⟩, rfl⟩)
    ·obtain rfl : i = xs.length := by omega
     have HB3 := Aside0.mk (HB.out.trans (HB2.out.mono HB.out.size))
     go_wp2
     repeat (go_quiet (fail); try go_wp2)
     go_roundw
     case measure => simp [intOf]; omega
     case rel => first | exact ⟨n + 1, by omega, by go_num, HB3⟩ | exact ⟨n + 1, by omega, by go_num, ⟨pw_below_drewN HB3.out _⟩⟩ | ((repeat apply Exists.intro); exact ⟨⟨n + 1, by omega, by go_num, HB3⟩, rfl⟩)
  ·obtain rfl : n = hs.length := by omega
   go_wp2
   repeat (go_quiet (fail); try go_wp2)
   go_loopw [5] (fun v wr => v = .int .i64 0 ∧ Aside0 (Below w.heap.size w wr)) (fun v _ => 0)
   case atStart => exact ⟨rfl, (by first | exact HB | exact ⟨pw_below_drewN HB.out _⟩)⟩
   case round =>
    obtain ⟨rfl, HB⟩ := hrel
    have hg0 := (blk_cell (blk_below HG.out HB.out) 2).trans rfl
    go_wp2
    repeat (go_quiet (fail); try go_wp2)
    go_loopw [7] (fun v wr => v = .int .i64 0 ∧ Aside0 (Below w.heap.size w wr)) (fun v _ => 0)
    case atStart => exact ⟨rfl, (by first | exact HB | exact ⟨pw_below_drewN HB.out _⟩)⟩
    case round =>
     obtain ⟨rfl, HB⟩ := hrel
     have hg0 := (blk_cell (blk_below HG.out HB.out) 4).trans rfl
     go_wp2
     repeat (go_quiet (fail); try go_wp2)
     go_loopw [9] (fun v wr => v = .int .i64 0 ∧ Aside0 (Below w.heap.size w wr)) (fun v _ => 0)
     case atStart => exact ⟨rfl, (by first | exact HB | exact ⟨pw_below_drewN HB.out _⟩)⟩
     case round =>
      obtain ⟨rfl, HB⟩ := hrel
      have hg0 := (blk_cell (blk_below HG.out HB.out) 6).trans rfl
      go_wp2
      repeat (go_quiet (fail); try go_wp2)
      go_ret
      exact ⟨rfl, HB.out⟩
end Go.Proofs.Ytodlgdpkadkjjaa.A
end
section
set_option linter.unusedVariables false
set_option linter.unusedSimpArgs false
namespace Go.Proofs.Ytodlgdpkadkjjaa.A
open Go.RowKit Go.Proofs.YtodlgdpkadkjjaaW.PrintWords Go.Proofs.YtodlgdpkadkjjaaW.PrintLast Go.Proofs.YtodlgdpkadkjjaaW.PrintMore

/-- the boxes of planes stay, and the rows of samples but the one at A -/
def KeepB (A : Option Addr) (w w' : World) : Prop := ∀ (k : Nat) (cs : Array Value) (t : TypeId), w.heap[k]? = some (Obj.cells cs t (0, 0)) → (t = 25 ∨ t = 50 ∧ ∀ ad, A = some ad → ad.block ≠ k) → w'.heap[k]? = w.heap[k]?
theorem KeepB.refl (A : Option Addr) (w : World) : KeepB A w w := fun _ _ _ _ _ => rfl
theorem KeepB.trans {A : Option Addr} {a b c : World} (h : KeepB A a b) (k : KeepB A b c) : KeepB A a c := fun i cs t hi ht => (k i cs t ((h i cs t hi ht).trans hi) ht).trans (h i cs t hi ht)
theorem KeepB.below {A : Option Addr} {a b : World} (h : Below a.heap.size a b) : KeepB A a b := fun i cs t hi _ => h.block i (blk_lt hi)
theorem KeepB.set {A : Option Addr} {w : World} {g t : Nat} {cs : Array Value} (hK : w.heap[g]? = some (.cells cs t (0, 0))) (ht : t ≠ 25 ∧ t ≠ 50) (i : Nat) (u : Value) : KeepB A w (w.setCell ⟨g, i, none⟩ u) := fun k cs' t' hk hc => Below.heap_setCell w _ u k (blk_ne hk hK (fun e => by rcases hc with rfl | ⟨rfl, _⟩; exact ht.1 e.symm; exact ht.2 e.symm))
theorem KeepB.grown {A : Option Addr} {w w1 : World} {row : Option Nat} (hg : w.grownBy w1 row) (hne : ∀ (k : Nat) (cs : Array Value) (t : TypeId), w.heap[k]? = some (Obj.cells cs t (0, 0)) → (t = 25 ∨ t = 50) → some k ≠ row) : KeepB A w w1 := fun k cs t hk ht => hg.block k (blk_lt hk) (hne k cs t hk (by rcases ht with h | h; exact .inl h; exact .inr h.1))
theorem KeepB.grown_alloc {A : Option Addr} {w w1 : World} {o : Obj} {row : Option Nat} (hg : (w.alloc o).grownBy w1 row) (hne : ∀ (k : Nat) (cs : Array Value) (t : TypeId), w.heap[k]? = some (Obj.cells cs t (0, 0)) → (t = 25 ∨ t = 50) → some k ≠ row) : KeepB A w w1 := fun k cs t hk ht => (hg.block k (blk_lt (blk_alloc hk o)) (hne k cs t hk (by rcases ht with h | h; exact .inl h; exact .inr h.1))).trans ((blk_alloc hk o).trans hk.symm)
theorem mark_calls (m i : Int) (w : World) : Calls Try.prog 58 #[.int .i64 m, .int .i64 i] w fun e w' => e = .returned (.int .i64 (wrap64 ((wrap64 (wrap64 (wrap64 (m * 31) + wrap64 (i * 7)) + 1)).tmod 250 + 1))) ∧ w = w' := by
 go_enter Try.func58, Try.ntmps58
 go_wp2
 go_ret
 exact ⟨rfl, rfl⟩

theorem gset {a w : World} {g : Nat} (h : a.grownBy w (some g)) (i : Nat) (u : Value) : a.grownBy (w.setCell ⟨g, i, none⟩ u) (some g) :=
 ⟨h.os, h.tape, h.output, by simpa [World.setCell] using h.size, fun k hk hne => (Below.heap_setCell w ⟨g, i, none⟩ u k (by rintro rfl; exact hne rfl)).trans (h.block k hk hne)⟩
theorem below_of_grown {w w1 : World} {B g : Nat} (hg : w.grownBy w1 (some g)) (hB : B ≤ g) (hs : B ≤ w.heap.size) : Below B w w1 :=
 ⟨hg.os, hg.tape, hg.output, hg.size, fun k hk => hg.block k (by omega) (by intro e; injection e; omega)⟩
def intK : Kd Int := Kd.scalar (fun x : Int => Value.int .i64 x) (fun _ => rfl)
def mkA (m : Int) (i : Nat) : Int := wrap64 ((wrap64 (wrap64 (wrap64 (m * 31) + wrap64 ((i : Int) * 7)) + 1)).tmod 250 + 1)
theorem mk_calls (m : Int) (i : Nat) (w : World) : Calls Try.prog 58 #[.int .i64 m, .int .i64 i] w fun e w' => e = .returned (.int .i64 (mkA m i)) ∧ w = w' := mark_calls m i w
def Marked (k : IntKind) (M : Int) (e : TypeId) (w : World) (B : Nat) (h : Hd) (m : Int) : Prop := (h.1 = none ∧ h.2.1 = 0) ∨ ∃ r cur, h.1 = some ⟨r, 0, none⟩ ∧ B ≤ r ∧ w.heap[r]? = some (.cells cur e (0, 0)) ∧ h.2.1 ≤ cur.size ∧ h.2.1 ≤ 9223372036854775807 ∧ ∀ j, j < h.2.1 → cur[j]? = some (.int k (mkA m j % M))
theorem Marked.move {k : IntKind} {M : Int} {e : TypeId} {w w1 : World} {B : Nat} {h : Hd} {m : Int} (H : Marked k M e w B h m) (hm : ∀ r (cur : Array Value), h.1 = some ⟨r, 0, none⟩ → w.heap[r]? = some (Obj.cells cur e (0, 0)) → w1.heap[r]? = w.heap[r]?) : Marked k M e w1 B h m := by
 rcases H with H | ⟨r, cur, h1, hb, h2, h3⟩
 ·exact .inl H
 ·exact .inr ⟨r, cur, h1, hb, by rw [hm r cur h1 h2]; exact h2, h3⟩
def Markeds (k : IntKind) (M : Int) (e : TypeId) (w : World) (B : Nat) (hs : List Hd) (ms : List Int) : Prop := hs.length = ms.length ∧ ∀ i (h1 : i < hs.length) (h2 : i < ms.length), Marked k M e w B hs[i] ms[i]
theorem Markeds.move {k : IntKind} {M : Int} {e : TypeId} {w w1 : World} {B : Nat} {hs : List Hd} {ms : List Int} (H : Markeds k M e w B hs ms) (hm : ∀ (r : Nat) (cur : Array Value), w.heap[r]? = some (Obj.cells cur e (0, 0)) → w1.heap[r]? = w.heap[r]?) : Markeds k M e w1 B hs ms := ⟨H.1, fun i h1 h2 => (H.2 i h1 h2).move fun r cur _ h => hm r cur h⟩
theorem Markeds.grown {α : Type} {d : Kd α} {k : IntKind} {M : Int} {e e' : TypeId} {w w1 : World} {B base : Nat} {hs : List Hd} {ms : List Int} {ok : Nat → Prop} {v : Value} {xs : List α} (H : Markeds k M e w B hs ms) (hR : d.R e' w base ok v xs) (hne : e' ≠ e) (hg : w.grownBy w1 v.ownBlock) : Markeds k M e w1 B hs ms := H.move fun r cur hr => hg.block r (blk_lt hr) (Kd.R_ne hR hr hne)
theorem Markeds.below {k : IntKind} {M : Int} {e : TypeId} {w w1 : World} {B : Nat} {hs : List Hd} {ms : List Int} (H : Markeds k M e w B hs ms) (hb : Below w.heap.size w w1) : Markeds k M e w1 B hs ms := H.move fun r cur hr => hb.block r (blk_lt hr)
theorem Markeds.alloc {k : IntKind} {M : Int} {e : TypeId} {w : World} {B : Nat} {hs : List Hd} {ms : List Int} (H : Markeds k M e w B hs ms) (o : Obj) : Markeds k M e (w.alloc o) B hs ms := H.below ((Below.refl _ _).alloc (Nat.le_refl _) o)
theorem Markeds.set {k : IntKind} {M : Int} {e t : TypeId} {w : World} {B g : Nat} {cs : Array Value} {hs : List Hd} {ms : List Int} (H : Markeds k M e w B hs ms) (hK : w.heap[g]? = some (.cells cs t (0, 0))) (ht : e ≠ t) (i : Nat) (u : Value) : Markeds k M e (w.setCell ⟨g, i, none⟩ u) B hs ms := H.move fun r cur hr => Below.heap_setCell w _ u r (blk_ne hr hK ht)
theorem Markeds.snoc {k : IntKind} {M : Int} {e : TypeId} {w : World} {B : Nat} {hs : List Hd} {ms : List Int} {h : Hd} {m : Int} (H : Markeds k M e w B hs ms) (h1 : Marked k M e w B h m) : Markeds k M e w B (hs ++ [h]) (ms ++ [m]) := by
 refine ⟨by simp [H.1], fun i h2 h3 => ?_⟩
 by_cases hi : i < hs.length
 ·have hi' : i < ms.length := by have := H.1; omega
  rw [List.getElem_append_left hi, List.getElem_append_left hi']; exact H.2 i hi hi'
 ·have e1 : i = hs.length := by simp at h2; omega
  subst e1
  rw [List.getElem_append_right (Nat.le_refl _), List.getElem_append_right (by have := H.1; omega)]
  simpa using h1
/-- none of the kept lists lies in block r -/
def Apart (hs : List Hd) (r : Nat) : Prop := ∀ h ∈ hs, ∀ ad, h.1 = some ad → ad.block ≠ r
theorem Markeds.apart {k : IntKind} {M : Int} {e : TypeId} {w w1 : World} {B r : Nat} {hs : List Hd} {ms : List Int} (H : Markeds k M e w B hs ms) (hA : Apart hs r) (hg : w.grownBy w1 (some r)) : Markeds k M e w1 B hs ms :=
 ⟨H.1, fun i h1 h2 => (H.2 i h1 h2).move fun r' cur h3 h4 => hg.block r' (blk_lt h4) (fun e => hA _ (List.getElem_mem h1) _ h3 (by injection e))⟩

def BkSamples (w : World) (g B : Nat) (hs : List Hd) (ms : List Int) : Prop := ∃ v vm, w.heap[g]? = some (.cells #[v, .slice none 0 0, .slice none 0 0, .slice none 0 0, vm, .slice none 0 0, .slice none 0 0, .slice none 0 0] 34 (0, 0)) ∧ Kd.R hdr 23 w B (fun _ => True) v hs ∧ Kd.R intK 3 w B (fun _ => True) vm ms ∧ Markeds .u32 4294967296 50 w B hs ms
theorem BkSamples.below {w w1 : World} {g B : Nat} {hs : List Hd} {ms : List Int} (h : BkSamples w g B hs ms) (hb : Below w.heap.size w w1) : BkSamples w1 g B hs ms := by
 obtain ⟨v, vm, h1, h2, h3, h4⟩ := h
 exact ⟨v, vm, blk_below h1 hb, Kd.R_below h2 hb, Kd.R_below h3 hb, Markeds.below h4 hb⟩
set_option maxHeartbeats 8000000 in
set_option maxRecDepth 100000 in
theorem markSamples (g B r n c : Nat) (cur : Array Value) (m : Int) (hs : List Hd) (ms : List Int) (w : World) (hK : BkSamples w g B hs ms) (hgB : g < B) (hBs : B ≤ w.heap.size) (hr : w.heap[r]? = some (.cells cur 50 (0, 0))) (hrB : B ≤ r) (hnc : n ≤ c) (hc : c ≤ cur.size) (hcm : c ≤ 9223372036854775807) (hA : Apart hs r) (hlen : hs.length ≤ 1000000) :
    Calls Try.prog 56 #[.pointer (some ⟨g, 0, none⟩), .slice (some ⟨r, 0, none⟩) n c, .int .i64 m] w fun e w' => e = .returned (.tuple #[]) ∧ BkSamples w' g B (hs ++ [(some ⟨r, 0, none⟩, c, c)]) (ms ++ [m]) ∧ But B g w w' ∧ KeepB (some ⟨r, 0, none⟩) w w' := by
 obtain ⟨v, vm, h1, h2, h3, h4⟩ := hK
 have HSM := Aside0.mk h4.1
 obtain ⟨As, cs, rfl, _, _⟩ := Kd.R_reads h2
 obtain ⟨Am, cm, rfl, _, _⟩ := Kd.R_reads h3
 have H1 := Aside0.mk h1
 have H2 := Aside0.mk h2
 have H3 := Aside0.mk h3
 have H4 := Aside0.mk h4
 have HR := Aside0.mk hr
 have HCZ := Aside0.mk hc
 have hgr : Aside0 (g ≠ r) := ⟨by omega⟩
 clear h1 h2 h3 h4 hr hc
 go_enter Try.func56, Try.ntmps56
 go_wp2
 go_loopw [6] (fun v wr => ∃ (j : Nat) (cur' : Array Value), j ≤ c ∧ v = .int .i64 j ∧ cur'.size = cur.size ∧ Aside0 (∀ i, i < j → cur'[i]? = some (.int .u32 (mkA m i % 4294967296))) ∧ Aside0 (wr.heap[r]? = some (.cells cur' 50 (0, 0))) ∧ Aside0 (w.grownBy wr (some r))) (fun v _ => c - (intOf v).toNat)
 case atStart => exact ⟨0, cur, by omega, rfl, rfl, ⟨fun i hi => by omega⟩, HR, ⟨World.grownBy.refl w _⟩⟩
 case round =>
  obtain ⟨j, cur', hj, rfl, hz, HI, HR1, HG⟩ := hrel
  by_cases hlt : j < c
  ·have x0 : wr.cell? ⟨r, j, none⟩ = some cur'[j]! := by
    rw [blk_cell HR1.out j, Array.getElem?_eq_getElem (by have := HCZ.out; omega), getElem!_pos cur' j (by have := HCZ.out; omega)]
   have x1 := blk_frozen HR1.out j
   have HZ := Aside0.mk hz
   clear hz
   go_wp2_with (go_at_call 58; refine (mk_calls m j _).mono ?_; rintro e w2 ⟨rfl, rfl⟩)
   refine ⟨⟨j + 1, cur'.set! j (.int .u32 (mkA m j % 4294967296)), by omega, by go_num, by rw [Array.size_set!]; exact HZ.out, ⟨fun i hi => ?_⟩, ⟨(blk_set HR1.out j _).trans (by rw [Array.set!_eq_setIfInBounds])⟩, ⟨gset HG.out j _⟩⟩, by simp [intOf]; omega⟩
   rw [Array.set!_eq_setIfInBounds, Array.getElem?_setIfInBounds]
   by_cases hij : j = i
   ·subst hij
    rw [if_pos rfl, if_pos (by have := HZ.out; have := HCZ.out; omega)]
   ·rw [if_neg hij]; exact HI.out i (by omega)
  ·obtain rfl : c = j := by omega
   have HZ := Aside0.mk hz
   clear hz
   have K1 := Aside0.mk (blk_grown H1.out HG.out (by intro e; injection e; omega))
   have Y1 := Aside0.mk (Kd.R_mono (Kd.R_grown (Kd.R_types H2.out HR.out (by decide)) HG.out (fun k hk he => hk.2 (by injection he))) (fun _ _ => trivial))
   have M1 := Aside0.mk (Kd.R_mono (Kd.R_grown (Kd.R_types H3.out HR.out (by decide)) HG.out (fun k hk he => hk.2 (by injection he))) (fun _ _ => trivial))
   have L1 := Aside0.mk (H4.out.apart hA HG.out)
   have T1 : Aside0 (But B g w wr) := ⟨.of_below (below_of_grown HG.out hrB hBs)⟩
   have Z1 : Aside0 (KeepB (some ⟨r, 0, none⟩) w wr) := ⟨fun k cs t hk hc => HG.out.block k (blk_lt hk) (fun e => by injection e with e; subst e; rcases hc with rfl | ⟨_, h⟩; (rw [HR.out] at hk; injection hk with hk; injection hk with _ e; exact absurd e (by decide)); exact h _ rfl rfl)⟩
   have hg0 := (blk_cell K1.out 0).trans rfl
   have S1 : Aside0 (B ≤ wr.heap.size) := ⟨Nat.le_trans hBs T1.out.size⟩
   obtain ⟨hs', hh⟩ : ∃ hs' : List Hd, hs' = hs ++ [(some ⟨r, 0, none⟩, c, c)] := ⟨_, rfl⟩
   obtain ⟨ms', hm'⟩ : ∃ ms' : List Int, ms' = ms ++ [m] := ⟨_, rfl⟩
   have HH := Aside0.mk hh
   have HM := Aside0.mk hm'
   clear hh hm'
   go_wp2_with ((with_reducible refine gate_builtin (b := .append) (xs := #[.tmp 28, .tmp 30]) rfl ?_); at_builtin; refine Kd.R_append_row Hd.v (none, 0, 0) (h1 := fun _ => rfl) (w0 := _) B rfl (.tmp 28) (.tmp 30) 27 23 (.slice none 0 0) 24 rfl Try.underlying27 infoH rfl (by omega) (.slice As hs.length cs) hs [(some ⟨r, 0, none⟩, c, c)] _ 1 1 (fun _ => True) rfl rfl (fun _ _ => trivial) (Kd.R_alloc Y1.out _) (hdr_new [(some ⟨r, 0, none⟩, c, c)] (blk_new _ _) rfl (by simp)) (Below.refl _ _) ?aS ?aL ?_; (case aS => exact ((Below.refl B wr).alloc S1.out _).size |> Nat.le_trans S1.out); (case aL => omega); intro v5 w5 hR1 hB1 hg1 hat1; rw [← HH.out] at hR1; obtain ⟨A5, c5, rfl, hc5, hC5⟩ := Kd.R_reads hR1; have Y5 := Aside0.mk hR1; have K5 := Aside0.mk (blk_grown (blk_alloc K1.out _) hg1 (Kd.R_ne Y1.out K1.out (by decide))); have B5 := Aside0.mk hB1; have M5 := Aside0.mk (Kd.R_over (Kd.R_alloc M1.out _) (Kd.R_alloc Y1.out _) (by decide) hg1); have L5 : Aside0 (Markeds .u32 4294967296 50 w5 B hs ms) := ⟨Markeds.grown (L1.out.alloc _) (Kd.R_alloc Y1.out _) (by decide) hg1⟩; have R5 := Aside0.mk (blk_grown (blk_alloc HR1.out _) hg1 (Kd.R_ne Y1.out HR1.out (by decide))); have Q5 := Aside0.mk ((Below.refl B wr).alloc S1.out _ |>.trans hB1); have Z5 : Aside0 (KeepB (some ⟨r, 0, none⟩) w w5) := ⟨Z1.out.trans (KeepB.grown_alloc hg1 (fun k cs t hk ht => Kd.R_ne Y1.out hk (by rcases ht with rfl | rfl <;> decide)))⟩; clear hR1 hB1 hg1 hat1 hC5; have fg5 := blk_frozen K5.out 0; have hg5 := (blk_cell K5.out 0).trans rfl)
   obtain ⟨W, hW⟩ : ∃ W, W = w5.setCell ⟨g, 0, none⟩ (.slice A5 hs'.length c5) := ⟨_, rfl⟩
   have KW : Aside0 (W.heap[g]? = some (.cells #[.slice A5 hs'.length c5, .slice none 0 0, .slice none 0 0, .slice none 0 0, (.slice Am ms.length cm), .slice none 0 0, .slice none 0 0, .slice none 0 0] 34 (0, 0))) := ⟨by rw [hW]; exact (blk_set K5.out 0 _).trans rfl⟩
   have YW : Aside0 (Kd.R hdr 23 W B (fun _ => True) (.slice A5 hs'.length c5) hs') := ⟨by rw [hW]; exact Kd.R_set Y5.out K5.out (by decide) 0 _⟩
   have MW : Aside0 (Kd.R intK 3 W B (fun _ => True) (.slice Am ms.length cm) ms) := ⟨by rw [hW]; exact Kd.R_set M5.out K5.out (by decide) 0 _⟩
   have LW : Aside0 (Markeds .u32 4294967296 50 W B hs ms) := ⟨by rw [hW]; exact Markeds.set L5.out K5.out (by decide) 0 _⟩
   have RW : Aside0 (W.heap[r]? = some (.cells cur' 50 (0, 0))) := ⟨by rw [hW]; exact (Below.heap_setCell w5 _ _ r (fun h => hgr.out h.symm)).trans R5.out⟩
   have TW : Aside0 (But B g w W) := ⟨by rw [hW]; exact (T1.out.trans (.of_below Q5.out)).set 0 _⟩
   have ZW : Aside0 (KeepB (some ⟨r, 0, none⟩) w W) := ⟨by rw [hW]; exact Z5.out.trans (KeepB.set K5.out (by decide) _ _)⟩
   rw [← hW]
   have K8 := Aside0.mk (blk_drew KW.out)
   have Y8 := Aside0.mk (Kd.R_drew YW.out)
   have M8 := Aside0.mk (Kd.R_drew MW.out)
   have L8 : Aside0 (Markeds .u32 4294967296 50 W.drew B hs ms) := ⟨Markeds.below LW.out (pw_below_drewN (Below.refl _ W) 1)⟩
   have R8 := Aside0.mk (blk_drew RW.out)
   have T8 : Aside0 (But B g w W.drew) := ⟨TW.out.trans (.of_below (pw_below_drewN (Below.refl _ W) 1))⟩
   have G8 : Aside0 (B ≤ W.drew.heap.size) := ⟨Nat.le_trans hBs T8.out.size⟩
   have Z8 : Aside0 (KeepB (some ⟨r, 0, none⟩) w W.drew) := ⟨ZW.out.trans (KeepB.below (pw_below_drewN (Below.refl _ W) 1))⟩
   clear hW
   refine start_ (n := 13) (S := fun w' => w'.cell? ⟨g, 4, none⟩ = some (.slice Am ms.length cm)) (ds := [12]) #[ff_,ff_,ff_,ff_,ff_,ff_,ff_,ff_,ff_,ff_,ff_,ff_,ff_] (by kernel_rfl) rfl rfl ((blk_cell K8.out 4).trans rfl) (fun hHeld => ?_)
   refine pure_ (i := 0) (N := some 34) (v := ?_) (a' := ?_) #[tt_,ff_,ff_,ff_,ff_,ff_,ff_,ff_,ff_,ff_,ff_,ff_,ff_] rfl rfl (by kernel_rfl) (fun _ _ _ h => h) (Or.inl ⟨by rfl, ?_⟩) ?_ ?_
   rotate_left
   ·intro w'
    go_simp
    with_reducible rfl
   rotate_left
   ·simp only [Act.put, List.setIfInBounds_toArray, List.set_cons_zero, List.set_cons_succ, i64_w, i32_w]
    rfl
   refine pure_ (i := 1) (N := some 35) (v := ?_) (a' := ?_) #[tt_,tt_,ff_,ff_,ff_,ff_,ff_,ff_,ff_,ff_,ff_,ff_,ff_] rfl rfl (by kernel_rfl) (fun _ _ _ h => h) (Or.inl ⟨by rfl, ?_⟩) ?_ ?_
   rotate_left
   ·intro w'
    go_simp
    with_reducible rfl
   rotate_left
   ·simp only [Act.put, List.setIfInBounds_toArray, List.set_cons_zero, List.set_cons_succ, i64_w, i32_w]
    rfl
   refine pure_ (i := 2) (N := some 36) (v := ?_) (a' := ?_) #[tt_,tt_,tt_,ff_,ff_,ff_,ff_,ff_,ff_,ff_,ff_,ff_,ff_] rfl rfl (by kernel_rfl) (fun _ _ _ h => h) (Or.inl ⟨by rfl, ?_⟩) ?_ ?_
   rotate_left
   ·intro w'
    go_simp
    with_reducible rfl
   rotate_left
   ·simp only [Act.put, List.setIfInBounds_toArray, List.set_cons_zero, List.set_cons_succ, i64_w, i32_w]
    rfl
   refine pure_ (i := 3) (N := some 37) (v := ?_) (a' := ?_) #[tt_,tt_,tt_,tt_,ff_,ff_,ff_,ff_,ff_,ff_,ff_,ff_,ff_] rfl rfl (by kernel_rfl) (fun _ _ _ h => h) (Or.inl ⟨by rfl, ?_⟩) ?_ ?_
   rotate_left
   ·intro w'
    go_simp
    with_reducible rfl
   rotate_left
   ·simp only [Act.put, List.setIfInBounds_toArray, List.set_cons_zero, List.set_cons_succ, i64_w, i32_w]
    rfl
   refine pure_ (i := 4) (N := some 38) (v := ?_) (a' := ?_) #[tt_,tt_,tt_,tt_,tt_,ff_,ff_,ff_,ff_,ff_,ff_,ff_,ff_] rfl rfl (by kernel_rfl) (fun _ _ _ h => h) (Or.inl ⟨by rfl, ?_⟩) ?_ ?_
   rotate_left
   ·intro w'
    go_simp
    with_reducible rfl
   rotate_left
   ·simp only [Act.put, List.setIfInBounds_toArray, List.set_cons_zero, List.set_cons_succ, i64_w, i32_w]
    rfl
   refine pure_ (i := 6) (N := some 40) (v := ?_) (a' := ?_) #[tt_,tt_,tt_,tt_,tt_,ff_,tt_,ff_,ff_,ff_,ff_,ff_,ff_] rfl rfl (by kernel_rfl) (fun _ _ _ h => h) (Or.inl ⟨by rfl, ?_⟩) ?_ ?_
   rotate_left
   ·intro w'
    go_simp
    with_reducible rfl
   rotate_left
   ·simp only [Act.put, List.setIfInBounds_toArray, List.set_cons_zero, List.set_cons_succ, i64_w, i32_w]
    rfl
   refine pure_ (i := 9) (N := some 43) (v := ?_) (a' := ?_) #[tt_,tt_,tt_,tt_,tt_,ff_,tt_,ff_,ff_,tt_,ff_,ff_,ff_] rfl rfl (by kernel_rfl) (fun _ _ _ h => h) (Or.inl ⟨by rfl, ?_⟩) ?_ ?_
   rotate_left
   ·intro w'
    go_simp
    with_reducible rfl
   rotate_left
   ·simp only [Act.put, List.setIfInBounds_toArray, List.set_cons_zero, List.set_cons_succ, i64_w, i32_w]
    rfl
   refine pure_ (i := 10) (N := some 44) (v := ?_) (a' := ?_) #[tt_,tt_,tt_,tt_,tt_,ff_,tt_,ff_,ff_,tt_,tt_,ff_,ff_] rfl rfl (by kernel_rfl) (fun _ _ _ h => h) (Or.inl ⟨by rfl, ?_⟩) ?_ ?_
   rotate_left
   ·intro w'
    go_simp
    with_reducible rfl
   rotate_left
   ·simp only [Act.put, List.setIfInBounds_toArray, List.set_cons_zero, List.set_cons_succ, i64_w, i32_w]
    rfl
   refine take_ (i := 5) (N := some 39) (v := ?_) (a' := ?_) #[tt_,tt_,tt_,tt_,tt_,tt_,tt_,ff_,ff_,tt_,tt_,ff_,ff_] rfl rfl (by kernel_rfl) (fun _ _ _ h => h) (Or.inl ⟨by rfl, ?_⟩) hHeld ?_ ?_
   rotate_left
   ·intro w' s0
    go_simp
    with_reducible rfl
   rotate_left
   ·simp only [Act.put, List.setIfInBounds_toArray, List.set_cons_zero, List.set_cons_succ, i64_w, i32_w]
    rfl
   refine one_ (i := 7) (N := some 41) #[tt_,tt_,tt_,tt_,tt_,tt_,tt_,tt_,ff_,tt_,tt_,ff_,ff_] rfl rfl (by kernel_rfl) (by decide) (fun K hK => ?_)
   refine value_ (w1 := ?_) (v := ?_) (by rfl) rfl ?_ ?_
   rotate_left 2
   ·go_simp
    constructor
    ·rfl
    ·rfl
   refine hK.out _ _ ((blk_cell (blk_alloc K8.out _) 4).trans rfl) (fun hHeld => ?_)
   clear hK K
   refine norm_ (a' := ?_) ?_ ?_
   rotate_left
   ·show Act.put _ (some 41) _ = _
    simp only [Act.put, List.setIfInBounds_toArray, List.set_cons_zero, List.set_cons_succ, i64_w, i32_w]
    rfl
   refine one_ (i := 8) (N := some 42) #[tt_,tt_,tt_,tt_,tt_,tt_,tt_,tt_,tt_,tt_,tt_,ff_,ff_] rfl rfl (by kernel_rfl) (by decide) (fun K hK => ?_)
   refine Kd.R_append_step intK (w0 := _) B (by rfl) (.tmp 39) (.tmp 41) 31 3 (.int .i64 0) 8 rfl Try.underlying31 infoI rfl (by decide) (by omega) (.slice Am ms.length cm) ms m [.int .i64 m] (fun _ => True) (fun _ => False) rfl rfl ?aP (fun _ hk => hk.elim) (fun _ _ => trivial) (M8.out) (Below.refl _ _) ?aS ?aL ?_
   (case aP => exact rfl)
   (case aS => exact G8.out)
   (case aL => have := HSM.out; omega)
   intro v7 w7 hR1 hB1 hg1 hat1
   rw [← HM.out] at hR1
   obtain ⟨A7, c7, rfl, hc7, hC7⟩ := Kd.R_reads hR1
   have M7 := Aside0.mk hR1
   have B7 := Aside0.mk hB1
   have K7 := Aside0.mk (blk_grown K8.out hg1 (Kd.R_ne M8.out K8.out (by decide)))
   have Y7 := Aside0.mk (Kd.R_over Y8.out M8.out (by decide) hg1)
   have L7 : Aside0 (Markeds .u32 4294967296 50 w7 B hs ms) := ⟨Markeds.grown L8.out M8.out (by decide) hg1⟩
   have R7 := Aside0.mk (blk_grown R8.out hg1 (Kd.R_ne M8.out R8.out (by decide)))
   have Z7 : Aside0 (KeepB (some ⟨r, 0, none⟩) w w7) := ⟨Z8.out.trans (KeepB.grown hg1 (fun k cs t hk ht => Kd.R_ne M8.out hk (by rcases ht with rfl | rfl <;> decide)))⟩
   clear hR1 hB1 hat1 hg1 hC7
   refine hK.out _ _ ((blk_cell K7.out 4).trans rfl) (fun hHeld => ?_)
   clear hK K
   refine norm_ (a' := ?_) ?_ ?_
   rotate_left
   ·show Act.put _ (some 42) _ = _
    simp only [Act.put, List.setIfInBounds_toArray, List.set_cons_zero, List.set_cons_succ, i64_w, i32_w]
    rfl
   refine pure_ (i := 11) (N := some 45) (v := ?_) (a' := ?_) #[tt_,tt_,tt_,tt_,tt_,tt_,tt_,tt_,tt_,tt_,tt_,tt_,ff_] rfl rfl (by kernel_rfl) (fun _ _ _ h => h) (Or.inl ⟨by rfl, ?_⟩) ?_ ?_
   rotate_left
   ·intro w'
    go_simp
    with_reducible rfl
   rotate_left
   ·simp only [Act.put, List.setIfInBounds_toArray, List.set_cons_zero, List.set_cons_succ, i64_w, i32_w]
    rfl
   refine last_ (i := 12) (N := none) #[tt_,tt_,tt_,tt_,tt_,tt_,tt_,tt_,tt_,tt_,tt_,tt_,tt_] rfl rfl (by kernel_rfl) (by decide) (fun K hK => ?_)
   have f1 := blk_frozen K7.out 4
   refine skip_ (w1 := ?_) (by rfl) rfl ?_ ?_
   rotate_left
   ·go_simp
    rfl
   refine hK.out _ _ ?_
   clear hK K
   refine done_ (by kernel_rfl) ?_
   try go_wp2
   go_end0
   rw [← HH.out, ← HM.out]
   refine ⟨rfl, ⟨_, _, (blk_set K7.out 4 _).trans rfl, Kd.R_set Y7.out K7.out (by decide) 4 _, Kd.R_set M7.out K7.out (by decide) 4 _, ?_⟩, (T8.out.trans (.of_below B7.out)).set 4 _, Z7.out.trans (KeepB.set K7.out (by decide) _ _)⟩
   have hmk : Marked .u32 4294967296 50 w7 B (some ⟨r, 0, none⟩, c, c) m := .inr ⟨r, cur', rfl, hrB, R7.out, by have := HZ.out; have := HCZ.out; simp only; omega, hcm, fun j hj => HI.out j hj⟩
   have hsn := Markeds.snoc L7.out hmk
   rw [← HH.out, ← HM.out] at hsn
   exact hsn.set K7.out (by decide) 4 _
end Go.Proofs.Ytodlgdpkadkjjaa.A
end
section
set_option linter.unusedVariables false
set_option linter.unusedSimpArgs false
namespace Go.Proofs.Ytodlgdpkadkjjaa.A
open Go.RowKit Go.Proofs.YtodlgdpkadkjjaaW.PrintWords Go.Proofs.YtodlgdpkadkjjaaW.PrintLast Go.Proofs.YtodlgdpkadkjjaaW.PrintMore

set_option maxHeartbeats 8000000 in
set_option maxRecDepth 100000 in
theorem nilSamples (g B : Nat) (m : Int) (hs : List Hd) (ms : List Int) (w : World) (hK : BkSamples w g B hs ms) (hgB : g < B) (hBs : B ≤ w.heap.size) (hlen : hs.length ≤ 1000000) :
    Calls Try.prog 56 #[.pointer (some ⟨g, 0, none⟩), .slice none 0 0, .int .i64 m] w fun e w' => e = .returned (.tuple #[]) ∧ BkSamples w' g B (hs ++ [(none, 0, 0)]) (ms ++ [m]) ∧ But B g w w' ∧ KeepB none w w' := by
 obtain ⟨v, vm, h1, h2, h3, h4⟩ := hK
 have HSM := Aside0.mk h4.1
 obtain ⟨As, cs, rfl, _, _⟩ := Kd.R_reads h2
 obtain ⟨Am, cm, rfl, _, _⟩ := Kd.R_reads h3
 have H1 := Aside0.mk h1
 have H2 := Aside0.mk h2
 have H3 := Aside0.mk h3
 have H4 := Aside0.mk h4
 clear h1 h2 h3 h4
 go_enter Try.func56, Try.ntmps56
 go_wp2
 go_loopw [6] (fun v wr => v = .int .i64 0 ∧ Aside0 (wr = w)) (fun v _ => 0)
 case atStart => exact ⟨rfl, ⟨rfl⟩⟩
 case round =>
     obtain ⟨rfl, hw⟩ := hrel
     have hw := hw.out
     subst hw
     have K1 := H1
     have Y1 := H2
     have M1 := H3
     have L1 := H4
     have T1 : Aside0 (But B g wr wr) := ⟨.refl _ _ _⟩
     have Z1 : Aside0 (KeepB none wr wr) := ⟨.refl _ _⟩
     have hg0 := (blk_cell K1.out 0).trans rfl
     have S1 : Aside0 (B ≤ wr.heap.size) := ⟨Nat.le_trans hBs T1.out.size⟩
     obtain ⟨hs', hh⟩ : ∃ hs' : List Hd, hs' = hs ++ [(none, 0, 0)] := ⟨_, rfl⟩
     obtain ⟨ms', hm'⟩ : ∃ ms' : List Int, ms' = ms ++ [m] := ⟨_, rfl⟩
     have HH := Aside0.mk hh
     have HM := Aside0.mk hm'
     clear hh hm'
     go_wp2_with ((with_reducible refine gate_builtin (b := .append) (xs := #[.tmp 28, .tmp 30]) rfl ?_); at_builtin; refine Kd.R_append_row Hd.v (none, 0, 0) (h1 := fun _ => rfl) (w0 := _) B rfl (.tmp 28) (.tmp 30) 27 23 (.slice none 0 0) 24 rfl Try.underlying27 infoH rfl (by omega) (.slice As hs.length cs) hs [(none, 0, 0)] _ 1 1 (fun _ => True) rfl rfl (fun _ _ => trivial) (Kd.R_alloc Y1.out _) (hdr_new [(none, 0, 0)] (blk_new _ _) rfl (by simp)) (Below.refl _ _) ?aS ?aL ?_; (case aS => exact ((Below.refl B wr).alloc S1.out _).size |> Nat.le_trans S1.out); (case aL => omega); intro v5 w5 hR1 hB1 hg1 hat1; rw [← HH.out] at hR1; obtain ⟨A5, c5, rfl, hc5, hC5⟩ := Kd.R_reads hR1; have Y5 := Aside0.mk hR1; have K5 := Aside0.mk (blk_grown (blk_alloc K1.out _) hg1 (Kd.R_ne Y1.out K1.out (by decide))); have B5 := Aside0.mk hB1; have M5 := Aside0.mk (Kd.R_over (Kd.R_alloc M1.out _) (Kd.R_alloc Y1.out _) (by decide) hg1); have L5 : Aside0 (Markeds .u32 4294967296 50 w5 B hs ms) := ⟨Markeds.grown (L1.out.alloc _) (Kd.R_alloc Y1.out _) (by decide) hg1⟩; have Q5 := Aside0.mk ((Below.refl B wr).alloc S1.out _ |>.trans hB1); have Z5 : Aside0 (KeepB none wr w5) := ⟨Z1.out.trans (KeepB.grown_alloc hg1 (fun k cs t hk ht => Kd.R_ne Y1.out hk (by rcases ht with rfl | rfl <;> decide)))⟩; clear hR1 hB1 hg1 hat1 hC5; have fg5 := blk_frozen K5.out 0; have hg5 := (blk_cell K5.out 0).trans rfl)
     obtain ⟨W, hW⟩ : ∃ W, W = w5.setCell ⟨g, 0, none⟩ (.slice A5 hs'.length c5) := ⟨_, rfl⟩
     have KW : Aside0 (W.heap[g]? = some (.cells #[.slice A5 hs'.length c5, .slice none 0 0, .slice none 0 0, .slice none 0 0, (.slice Am ms.length cm), .slice none 0 0, .slice none 0 0, .slice none 0 0] 34 (0, 0))) := ⟨by rw [hW]; exact (blk_set K5.out 0 _).trans rfl⟩
     have YW : Aside0 (Kd.R hdr 23 W B (fun _ => True) (.slice A5 hs'.length c5) hs') := ⟨by rw [hW]; exact Kd.R_set Y5.out K5.out (by decide) 0 _⟩
     have MW : Aside0 (Kd.R intK 3 W B (fun _ => True) (.slice Am ms.length cm) ms) := ⟨by rw [hW]; exact Kd.R_set M5.out K5.out (by decide) 0 _⟩
     have LW : Aside0 (Markeds .u32 4294967296 50 W B hs ms) := ⟨by rw [hW]; exact Markeds.set L5.out K5.out (by decide) 0 _⟩
     have TW : Aside0 (But B g wr W) := ⟨by rw [hW]; exact (T1.out.trans (.of_below Q5.out)).set 0 _⟩
     have ZW : Aside0 (KeepB none wr W) := ⟨by rw [hW]; exact Z5.out.trans (KeepB.set K5.out (by decide) _ _)⟩
     rw [← hW]
     have K8 := Aside0.mk (blk_drew KW.out)
     have Y8 := Aside0.mk (Kd.R_drew YW.out)
     have M8 := Aside0.mk (Kd.R_drew MW.out)
     have L8 : Aside0 (Markeds .u32 4294967296 50 W.drew B hs ms) := ⟨Markeds.below LW.out (pw_below_drewN (Below.refl _ W) 1)⟩
     have T8 : Aside0 (But B g wr W.drew) := ⟨TW.out.trans (.of_below (pw_below_drewN (Below.refl _ W) 1))⟩
     have G8 : Aside0 (B ≤ W.drew.heap.size) := ⟨Nat.le_trans hBs T8.out.size⟩
     have Z8 : Aside0 (KeepB none wr W.drew) := ⟨ZW.out.trans (KeepB.below (pw_below_drewN (Below.refl _ W) 1))⟩
     clear hW
     refine start_ (n := 13) (S := fun w' => w'.cell? ⟨g, 4, none⟩ = some (.slice Am ms.length cm)) (ds := [12]) #[ff_,ff_,ff_,ff_,ff_,ff_,ff_,ff_,ff_,ff_,ff_,ff_,ff_] (by kernel_rfl) rfl rfl ((blk_cell K8.out 4).trans rfl) (fun hHeld => ?_)
     refine pure_ (i := 0) (N := some 34) (v := ?_) (a' := ?_) #[tt_,ff_,ff_,ff_,ff_,ff_,ff_,ff_,ff_,ff_,ff_,ff_,ff_] rfl rfl (by kernel_rfl) (fun _ _ _ h => h) (Or.inl ⟨by rfl, ?_⟩) ?_ ?_
     rotate_left
     ·intro w'
      go_simp
      with_reducible rfl
     rotate_left
     ·simp only [Act.put, List.setIfInBounds_toArray, List.set_cons_zero, List.set_cons_succ, i64_w, i32_w]
      rfl
     refine pure_ (i := 1) (N := some 35) (v := ?_) (a' := ?_) #[tt_,tt_,ff_,ff_,ff_,ff_,ff_,ff_,ff_,ff_,ff_,ff_,ff_] rfl rfl (by kernel_rfl) (fun _ _ _ h => h) (Or.inl ⟨by rfl, ?_⟩) ?_ ?_
     rotate_left
     ·intro w'
      go_simp
      with_reducible rfl
     rotate_left
     ·simp only [Act.put, List.setIfInBounds_toArray, List.set_cons_zero, List.set_cons_succ, i64_w, i32_w]
      rfl
     refine pure_ (i := 2) (N := some 36) (v := ?_) (a' := ?_) #[tt_,tt_,tt_,ff_,ff_,ff_,ff_,ff_,ff_,ff_,ff_,ff_,ff_] rfl rfl (by kernel_rfl) (fun _ _ _ h => h) (Or.inl ⟨by rfl, ?_⟩) ?_ ?_
     rotate_left
     ·intro w'
      go_simp
      with_reducible rfl
     rotate_left
     ·simp only [Act.put, List.setIfInBounds_toArray, List.set_cons_zero, List.set_cons_succ, i64_w, i32_w]
      rfl
     refine pure_ (i := 3) (N := some 37) (v := ?_) (a' := ?_) #[tt_,tt_,tt_,tt_,ff_,ff_,ff_,ff_,ff_,ff_,ff_,ff_,ff_] rfl rfl (by kernel_rfl) (fun _ _ _ h => h) (Or.inl ⟨by rfl, ?_⟩) ?_ ?_
     rotate_left
     ·intro w'
      go_simp
      with_reducible rfl
     rotate_left
     ·simp only [Act.put, List.setIfInBounds_toArray, List.set_cons_zero, List.set_cons_succ, i64_w, i32_w]
      rfl
     refine pure_ (i := 4) (N := some 38) (v := ?_) (a' := ?_) #[tt_,tt_,tt_,tt_,tt_,ff_,ff_,ff_,ff_,ff_,ff_,ff_,ff_] rfl rfl (by kernel_rfl) (fun _ _ _ h => h) (Or.inl ⟨by rfl, ?_⟩) ?_ ?_
     rotate_left
     ·intro w'
      go_simp
      with_reducible rfl
     rotate_left
     ·simp only [Act.put, List.setIfInBounds_toArray, List.set_cons_zero, List.set_cons_succ, i64_w, i32_w]
      rfl
     refine pure_ (i := 6) (N := some 40) (v := ?_) (a' := ?_) #[tt_,tt_,tt_,tt_,tt_,ff_,tt_,ff_,ff_,ff_,ff_,ff_,ff_] rfl rfl (by kernel_rfl) (fun _ _ _ h => h) (Or.inl ⟨by rfl, ?_⟩) ?_ ?_
     rotate_left
     ·intro w'
      go_simp
      with_reducible rfl
     rotate_left
     ·simp only [Act.put, List.setIfInBounds_toArray, List.set_cons_zero, List.set_cons_succ, i64_w, i32_w]
      rfl
     refine pure_ (i := 9) (N := some 43) (v := ?_) (a' := ?_) #[tt_,tt_,tt_,tt_,tt_,ff_,tt_,ff_,ff_,tt_,ff_,ff_,ff_] rfl rfl (by kernel_rfl) (fun _ _ _ h => h) (Or.inl ⟨by rfl, ?_⟩) ?_ ?_
     rotate_left
     ·intro w'
      go_simp
      with_reducible rfl
     rotate_left
     ·simp only [Act.put, List.setIfInBounds_toArray, List.set_cons_zero, List.set_cons_succ, i64_w, i32_w]
      rfl
     refine pure_ (i := 10) (N := some 44) (v := ?_) (a' := ?_) #[tt_,tt_,tt_,tt_,tt_,ff_,tt_,ff_,ff_,tt_,tt_,ff_,ff_] rfl rfl (by kernel_rfl) (fun _ _ _ h => h) (Or.inl ⟨by rfl, ?_⟩) ?_ ?_
     rotate_left
     ·intro w'
      go_simp
      with_reducible rfl
     rotate_left
     ·simp only [Act.put, List.setIfInBounds_toArray, List.set_cons_zero, List.set_cons_succ, i64_w, i32_w]
      rfl
     refine take_ (i := 5) (N := some 39) (v := ?_) (a' := ?_) #[tt_,tt_,tt_,tt_,tt_,tt_,tt_,ff_,ff_,tt_,tt_,ff_,ff_] rfl rfl (by kernel_rfl) (fun _ _ _ h => h) (Or.inl ⟨by rfl, ?_⟩) hHeld ?_ ?_
     rotate_left
     ·intro w' s0
      go_simp
      with_reducible rfl
     rotate_left
     ·simp only [Act.put, List.setIfInBounds_toArray, List.set_cons_zero, List.set_cons_succ, i64_w, i32_w]
      rfl
     refine one_ (i := 7) (N := some 41) #[tt_,tt_,tt_,tt_,tt_,tt_,tt_,tt_,ff_,tt_,tt_,ff_,ff_] rfl rfl (by kernel_rfl) (by decide) (fun K hK => ?_)
     refine value_ (w1 := ?_) (v := ?_) (by rfl) rfl ?_ ?_
     rotate_left 2
     ·go_simp
      constructor
      ·rfl
      ·rfl
     refine hK.out _ _ ((blk_cell (blk_alloc K8.out _) 4).trans rfl) (fun hHeld => ?_)
     clear hK K
     refine norm_ (a' := ?_) ?_ ?_
     rotate_left
     ·show Act.put _ (some 41) _ = _
      simp only [Act.put, List.setIfInBounds_toArray, List.set_cons_zero, List.set_cons_succ, i64_w, i32_w]
      rfl
     refine one_ (i := 8) (N := some 42) #[tt_,tt_,tt_,tt_,tt_,tt_,tt_,tt_,tt_,tt_,tt_,ff_,ff_] rfl rfl (by kernel_rfl) (by decide) (fun K hK => ?_)
     refine Kd.R_append_step intK (w0 := _) B (by rfl) (.tmp 39) (.tmp 41) 31 3 (.int .i64 0) 8 rfl Try.underlying31 infoI rfl (by decide) (by omega) (.slice Am ms.length cm) ms m [.int .i64 m] (fun _ => True) (fun _ => False) rfl rfl ?aP (fun _ hk => hk.elim) (fun _ _ => trivial) (M8.out) (Below.refl _ _) ?aS ?aL ?_
     (case aP => exact rfl)
     (case aS => exact G8.out)
     (case aL => have := HSM.out; omega)
     intro v7 w7 hR1 hB1 hg1 hat1
     rw [← HM.out] at hR1
     obtain ⟨A7, c7, rfl, hc7, hC7⟩ := Kd.R_reads hR1
     have M7 := Aside0.mk hR1
     have B7 := Aside0.mk hB1
     have K7 := Aside0.mk (blk_grown K8.out hg1 (Kd.R_ne M8.out K8.out (by decide)))
     have Y7 := Aside0.mk (Kd.R_over Y8.out M8.out (by decide) hg1)
     have L7 : Aside0 (Markeds .u32 4294967296 50 w7 B hs ms) := ⟨Markeds.grown L8.out M8.out (by decide) hg1⟩
     have Z7 : Aside0 (KeepB none wr w7) := ⟨Z8.out.trans (KeepB.grown hg1 (fun k cs t hk ht => Kd.R_ne M8.out hk (by rcases ht with rfl | rfl <;> decide)))⟩
     clear hR1 hB1 hat1 hg1 hC7
     refine hK.out _ _ ((blk_cell K7.out 4).trans rfl) (fun hHeld => ?_)
     clear hK K
     refine norm_ (a' := ?_) ?_ ?_
     rotate_left
     ·show Act.put _ (some 42) _ = _
      simp only [Act.put, List.setIfInBounds_toArray, List.set_cons_zero, List.set_cons_succ, i64_w, i32_w]
      rfl
     refine pure_ (i := 11) (N := some 45) (v := ?_) (a' := ?_) #[tt_,tt_,tt_,tt_,tt_,tt_,tt_,tt_,tt_,tt_,tt_,tt_,ff_] rfl rfl (by kernel_rfl) (fun _ _ _ h => h) (Or.inl ⟨by rfl, ?_⟩) ?_ ?_
     rotate_left
     ·intro w'
      go_simp
      with_reducible rfl
     rotate_left
     ·simp only [Act.put, List.setIfInBounds_toArray, List.set_cons_zero, List.set_cons_succ, i64_w, i32_w]
      rfl
     refine last_ (i := 12) (N := none) #[tt_,tt_,tt_,tt_,tt_,tt_,tt_,tt_,tt_,tt_,tt_,tt_,tt_] rfl rfl (by kernel_rfl) (by decide) (fun K hK => ?_)
     have f1 := blk_frozen K7.out 4
     refine skip_ (w1 := ?_) (by rfl) rfl ?_ ?_
     rotate_left
     ·go_simp
      rfl
     refine hK.out _ _ ?_
     clear hK K
     refine done_ (by kernel_rfl) ?_
     try go_wp2
     go_end0
     rw [← HH.out, ← HM.out]
     refine ⟨rfl, ⟨_, _, (blk_set K7.out 4 _).trans rfl, Kd.R_set Y7.out K7.out (by decide) 4 _, Kd.R_set M7.out K7.out (by decide) 4 _, ?_⟩, (T8.out.trans (.of_below B7.out)).set 4 _, Z7.out.trans (KeepB.set K7.out (by decide) _ _)⟩
     have hmk : Marked .u32 4294967296 50 w7 B (none, 0, 0) m := .inl ⟨rfl, rfl⟩
     have hsn := Markeds.snoc L7.out hmk
     rw [← HH.out, ← HM.out] at hsn
     exact hsn.set K7.out (by decide) 4 _
end Go.Proofs.Ytodlgdpkadkjjaa.A
end
section
set_option linter.unusedVariables false
set_option linter.unusedSimpArgs false
namespace Go.Proofs.Ytodlgdpkadkjjaa.A
open Go.RowKit Go.Proofs.YtodlgdpkadkjjaaW.PrintWords Go.Proofs.YtodlgdpkadkjjaaW.PrintLast Go.Proofs.YtodlgdpkadkjjaaW.PrintMore

def Ns (w : World) (v : Value) (ms : List Int) : Prop := ∃ A c, v = .slice A ms.length c ∧ intK.C w A ms.length ms
theorem Ns.below {w w1 : World} {v : Value} {ms : List Int} (h : Ns w v ms) (hb : Below w.heap.size w w1) : Ns w1 v ms := by obtain ⟨A, c, h1, h2⟩ := h; exact ⟨A, c, h1, Kd.C_below h2 hb⟩
theorem Ns.of_R {e : TypeId} {w : World} {B : Nat} {ok : Nat → Prop} {v : Value} {ms : List Int} (h : Kd.R intK e w B ok v ms) : Ns w v ms := by
 obtain ⟨A, c, h1, h2, h3⟩ := Kd.R_reads h
 exact ⟨A, c, h1, h3⟩
theorem Ns.len {w : World} {v : Value} {ms : List Int} (h : Ns w v ms) : ∃ A c, v = .slice A ms.length c := by obtain ⟨A, c, h1, _⟩ := h; exact ⟨A, c, h1⟩
theorem Ns.at_ {w : World} {v : Value} {ms : List Int} (h : Ns w v ms) {i : Nat} (hi : i < ms.length) : ∃ ad c, v = .slice (some ad) ms.length c ∧ w.cell? (ad.add i) = some (.int .i64 ms[i]) := by
 obtain ⟨A, c, h1, h2⟩ := h
 obtain ⟨ad, cs, hA, hl, hK, hc⟩ := Kd.C_get h2 0 i (by omega) (by omega)
 subst hA
 refine ⟨ad, c, h1, ?_⟩
 have hK' : cs = [(.int .i64 ms[i])] := by
  have e : ms.getD ((i : Int)).toNat 0 = ms[i] := by simp [List.getElem?_eq_getElem hi]
  rw [e] at hK
  exact hK
 have := hc 0 _ (by rw [hK']; rfl)
 simpa [intK, Kd.scalar] using this
theorem Markeds.nil (k : IntKind) (M : Int) (e : TypeId) (w : World) (B : Nat) : Markeds k M e w B [] [] := ⟨rfl, fun i h => by simp at h⟩
theorem Marked.cells {k : IntKind} {M : Int} {e : TypeId} {w : World} {B : Nat} {h : Hd} {m : Int} (H : Marked k M e w B h m) : h.2.1 ≤ 9223372036854775807 ∧ ∀ j, j < h.2.1 → ∃ r, h.1 = some ⟨r, 0, none⟩ ∧ w.cell? ⟨r, j, none⟩ = some (.int k (mkA m j % M)) := by
 rcases H with ⟨_, h2⟩ | ⟨r, cur, h1, hb, h2, h3, h4, h5⟩
 ·exact ⟨by omega, fun j hj => by omega⟩
 ·exact ⟨h4, fun j hj => ⟨r, h1, by rw [blk_cell h2 j]; exact h5 j hj⟩⟩
set_option maxHeartbeats 8000000 in
set_option maxRecDepth 100000 in
theorem bookHold (g B : Nat) (hs : List Hd) (ms : List Int) (w : World) (hR : BkSamples w g B hs ms) : Calls Try.prog 21 #[.pointer (some ⟨g, 0, none⟩)] w fun e w' => e = .returned (.bool true) ∧ Below w.heap.size w w' := by
 obtain ⟨v0, m0, h1, h2', h4', h6⟩ := hR
 have h2 := Hs.of_R h2'
 have h4 := Ns.of_R h4'
 have HG := Aside0.mk h1
 have H0 := Aside0.mk h2
 have N0 := Aside0.mk h4
 have S0 := Aside0.mk h6
 have l0 := h2.bound
 obtain ⟨A0, c0, rfl⟩ := h2.len
 obtain ⟨A2, c2, rfl⟩ := h4.len
 clear h1 h2 h4 h6 h2' h4'
 go_enter Try.func21, Try.ntmps21
 go_wp2
 go_loopw [3] (fun v wr => ∃ (n : Nat), n ≤ hs.length ∧ v = .int .i64 n ∧ Aside0 (Below w.heap.size w wr)) (fun v _ => hs.length - (intOf v).toNat)
 case atStart => exact ⟨0, by omega, rfl, ⟨Below.refl _ _⟩⟩
 case round =>
  obtain ⟨n, hn, rfl, HB⟩ := hrel
  have hg0 := (blk_cell (blk_below HG.out HB.out) 0).trans rfl
  have hg1 := (blk_cell (blk_below HG.out HB.out) 4).trans rfl
  by_cases hlt : n < hs.length
  ·have hlt' : n < ms.length := by have := S0.out.1; omega
   obtain ⟨ad, c, e1, hx⟩ := Hs.at_ (H0.out.below HB.out) hlt
   injection e1 with e1 _ e1'
   obtain ⟨ad', c', e2, hy⟩ := Ns.at_ (N0.out.below HB.out) hlt'
   injection e2 with e2 _ e2'
   subst e1 e1' e2 e2'
   obtain ⟨lx, hM⟩ := Marked.cells ((Markeds.below S0.out HB.out).2 n hlt hlt')
   obtain ⟨⟨B1, n1, d1⟩, hh1⟩ : ∃ h : Hd, h = hs[n] := ⟨_, rfl⟩
   obtain ⟨m1, hh2⟩ : ∃ h : Int, h = ms[n] := ⟨_, rfl⟩
   rw [← hh1] at hx hM lx
   rw [← hh2] at hy hM
   simp only [Hd.v] at hx hM lx
   have HMK := Aside0.mk hM
   have HX := Aside0.mk hx
   have HY := Aside0.mk hy
   clear hh1 hh2 hx hy hM
   go_wp2
   repeat (go_quiet (fail); try go_wp2)
   go_loopw [4] (fun v wr2 => ∃ (i : Nat), i ≤ n1 ∧ v = .int .i64 i ∧ Aside0 (Below wr.heap.size wr wr2)) (fun v _ => n1 - (intOf v).toNat)
   case atStart => exact ⟨0, by omega, rfl, ⟨Below.refl _ _⟩⟩
   case round =>
    obtain ⟨i, hi, rfl, HB2⟩ := hrel
    have hg0 := pw_cell_below HB2.out hg0
    have hg1 := pw_cell_below HB2.out hg1
    have hx := pw_cell_below HB2.out HX.out
    have hy := pw_cell_below HB2.out HY.out
    by_cases hlt2 : i < n1
    ·obtain ⟨r, rfl, z0⟩ := HMK.out i hlt2
     have z1 := pw_cell_below HB2.out z0
     have HZ0 := Aside0.mk z0
     clear z0
     go_wp2
     go_quiet ((go_at_call 58; exact Calls.quiet_of_same ((mk_calls m1 i _).mono fun e w' h => ⟨h.1, h.2.symm⟩)))
     go_wp2
     go_roundw
     case measure => simp [intOf]; omega
     case rel => first | exact ⟨i + 1, by omega, by go_num, ⟨pw_below_drewN HB2.out _⟩⟩ | ((repeat apply Exists.intro); exact ⟨⟨i + 1, by omega, by go_num, ⟨pw_below_drewN HB2.out _⟩⟩, rfl⟩)
    ·obtain rfl : i = n1 := by omega
     have HB3 := Aside0.mk (HB.out.trans (HB2.out.mono HB.out.size))
     go_wp2
     repeat (go_quiet (fail); try go_wp2)
     go_roundw
     case measure => simp [intOf]; omega
     case rel => first | exact ⟨n + 1, by omega, by go_num, HB3⟩ | exact ⟨n + 1, by omega, by go_num, ⟨pw_below_drewN HB3.out _⟩⟩ | ((repeat apply Exists.intro); exact ⟨⟨n + 1, by omega, by go_num, HB3⟩, rfl⟩)
  ·obtain rfl : n = hs.length := by omega
   go_wp2
   repeat (go_quiet (fail); try go_wp2)
   go_loopw [5] (fun v wr => v = .int .i64 0 ∧ Aside0 (Below w.heap.size w wr)) (fun v _ => 0)
   case atStart => exact ⟨rfl, (by first | exact HB | exact ⟨pw_below_drewN HB.out _⟩)⟩
   case round =>
    obtain ⟨rfl, HB⟩ := hrel
    have hg0 := (blk_cell (blk_below HG.out HB.out) 1).trans rfl
    go_wp2
    repeat (go_quiet (fail); try go_wp2)
    go_loopw [7] (fun v wr => v = .int .i64 0 ∧ Aside0 (Below w.heap.size w wr)) (fun v _ => 0)
    case atStart => exact ⟨rfl, (by first | exact HB | exact ⟨pw_below_drewN HB.out _⟩)⟩
    case round =>
     obtain ⟨rfl, HB⟩ := hrel
     have hg0 := (blk_cell (blk_below HG.out HB.out) 2).trans rfl
     go_wp2
     repeat (go_quiet (fail); try go_wp2)
     go_loopw [9] (fun v wr => v = .int .i64 0 ∧ Aside0 (Below w.heap.size w wr)) (fun v _ => 0)
     case atStart => exact ⟨rfl, (by first | exact HB | exact ⟨pw_below_drewN HB.out _⟩)⟩
     case round =>
      obtain ⟨rfl, HB⟩ := hrel
      have hg0 := (blk_cell (blk_below HG.out HB.out) 3).trans rfl
      go_wp2
      repeat (go_quiet (fail); try go_wp2)
      go_ret
      exact ⟨rfl, HB.out⟩
end Go.Proofs.Ytodlgdpkadkjjaa.A
end
section
set_option linter.unusedVariables false
set_option linter.unusedSimpArgs false
namespace Go.Proofs.Ytodlgdpkadkjjaa.A
open Go.RowKit Go.Shelf Go.Proofs.YtodlgdpkadkjjaaW.PrintWords Go.Proofs.YtodlgdpkadkjjaaW.PrintLast Go.Proofs.YtodlgdpkadkjjaaW.PrintMore Go.Proofs.Ytodlgdpkadkjjaa.PPyramidLevels
open Ieee
theorem compare_self_nat (n : Nat) : compare n n = .eq := by
 show (if n < n then Ordering.lt else if n = n then .eq else .gt) = .eq
 rw [if_neg (Nat.lt_irrefl n), if_pos rfl]
theorem compare_self_int (n : Int) : compare n n = .eq := by
 show (if n < n then Ordering.lt else if n = n then .eq else .gt) = .eq
 rw [if_neg (Int.lt_irrefl n), if_pos rfl]
theorem order_self {B q : Nat} (h : Ok B (some q)) : FloatKind.f64.format.order q q = some .eq := by
 show double.order q q = some .eq
 unfold Format.order
 rcases h with h | ⟨a, h⟩ | ⟨a, n, ⟨r, h, hr, _⟩, _⟩
 ·exact absurd h (by simp)
 ·obtain rfl := Option.some.inj h
  rw [read_word double a double.infRung_lt, rd_inf double (by decide)]
  show some (compare a.toNat a.toNat) = _
  rw [show compare a.toNat a.toNat = .eq from compare_self_nat _]
 ·obtain rfl := Option.some.inj h
  obtain ⟨m, p, e, _⟩ := read_fin double hPd a hr
  rw [e]
  show some (compare (signed a m (p - min p p).toNat) (signed a m (p - min p p).toNat)) = _
  rw [show compare (signed a m (p - min p p).toNat) (signed a m (p - min p p).toNat) = .eq from compare_self_int _]
theorem order_nan {v : Nat} (h : Dv v none) : FloatKind.f64.format.order v v = none := by
 obtain ⟨a, t, h⟩ := h
 show double.order v v = none
 unfold Format.order
 rw [h]; rfl
/-- the reference's value of a sample -/
theorem rFloat_calls (s : Nat) (hs : s < 4294967296) (w : World) : Calls Try.prog 76 #[.int .u32 (s : Int)] w fun e w' => ∃ v, e = .returned (.float .f64 v) ∧ Below w.heap.size w w' ∧ Dv v (wv s) := by
 have hfrom := fun w => run_from s w
 obtain ⟨v, m, hr, hv⟩ := step_wv s hs w
 have hb : Below w.heap.size w (w.drewN m) := pw_below_drewN (Below.refl _ _) _
 have hpost : ∃ v', Ending.returned (.float .f64 v) = .returned (.float .f64 v') ∧ Below w.heap.size w (w.drewN m) ∧ Dv v' (wv s) := ⟨v, rfl, hb, hv⟩
 clear hv hb
 have HPO := Aside0.mk hpost
 clear hpost
 generalize w.drewN m = wm at *
 go_enter Try.func76, Try.ntmps76
 go_wp2_with (first | ((with_reducible refine gate_dst (N := 4) rfl ?_); refine same_event rfl (.float .f32 s) ?hr ?_; (case hr => first | (go_simp; done) | (go_simp; rfl))) | ((with_reducible refine gate_dst (N := 5) rfl ?_); refine Kd.event_run rfl (v := .float .f64 v) (w1 := wm) ?hr ?_; (case hr => first | (go_simp; done) | (go_simp; rfl))))
 go_ret
 exact HPO.out
/-- the reference's sample of a mean -/
theorem rSample_calls (l : List (Nat × Nat)) (t : Nat) (ht : t ≤ 4) (hl : ∀ t ∈ l, 1 ≤ t.1 ∧ t.2 < 2 ^ 32) (hw : wtot l = 2 ^ t) (v : Nat) (hv : Dv v (wmean l)) (w : World) : Calls Try.prog 77 #[.float .f64 v] w fun e w' => e = .returned (.int .u32 ((wbits l : Nat) : Int)) ∧ Below w.heap.size w w' := by
 have hok := wmean_ok l t ht hl hw
 cases ho : wmean l with
 | none =>
  rw [ho] at hv
  have h1 : FloatKind.f64.format.order v v = none := order_nan hv
  have hb : wbits l = 2143289344 := by unfold wbits; rw [ho]; rfl
  rw [hb]
  have hB := Aside0.mk (Below.refl w.heap.size w)
  clear hv hok ho hb
  go_enter Try.func77, Try.ntmps77
  go_wp2
  go_ret
  exact ⟨rfl, hB.out⟩
 | some q =>
  rw [ho] at hv hok
  obtain rfl : v = q := hv
  have h1 : FloatKind.f64.format.order v v = some .eq := order_self hok
  obtain ⟨u, m, hr, _, hu⟩ := step_back (v := v) (o := some v) rfl (fun q hq => by
   rcases wbits_ok l t ht hl hw with ⟨h9, _⟩ | ⟨q', h9, h8, _⟩
   ·rw [h9] at ho; cases ho
   ·rw [h9] at ho; cases ho; cases hq; exact ⟨_, h8⟩) w
  have hb : wbits l = u := by unfold wbits; rw [ho]; show (floatToFloatBits .f64 v .f32).getD made = u; rw [hu v rfl]; rfl
  rw [hb]
  have hbits := fun w => run_bits u w
  have HB := Aside0.mk (pw_below_drewN (Below.refl w.heap.size w) m)
  clear hu hok ho hb
  generalize w.drewN m = wm at *
  go_enter Try.func77, Try.ntmps77
  go_wp2_with (first | ((with_reducible refine gate_dst (N := 7) rfl ?_); refine Kd.event_run rfl (v := .float .f32 u) (w1 := wm) ?hr ?_; (case hr => first | (go_simp; done) | (go_simp; rfl))) | ((with_reducible refine gate_dst (N := 8) rfl ?_); refine same_event rfl (.int .u32 (u : Int)) ?hr ?_; (case hr => first | (go_simp; done) | (go_simp; rfl))))
  go_ret
  exact ⟨rfl, HB.out⟩
end Go.Proofs.Ytodlgdpkadkjjaa.A
end
section
set_option linter.unusedVariables false
set_option linter.unusedSimpArgs false
namespace Go.Proofs.Ytodlgdpkadkjjaa.A
open Go.RowKit Go.Shelf Go.Proofs.YtodlgdpkadkjjaaW.PrintWords Go.Proofs.YtodlgdpkadkjjaaW.PrintLast Go.Proofs.YtodlgdpkadkjjaaW.PrintMore Go.Proofs.Ytodlgdpkadkjjaa.PPyramidLevels
open Ieee
/-- a weight and its sample -/
def pr (ws ns : List Nat) (j : Nat) : Nat × Nat := (ws[j]?.getD 0, ns[j]?.getD 0)
def prs (ws ns : List Nat) (i : Nat) : List (Nat × Nat) := (List.range i).map (pr ws ns)
theorem prs_succ (ws ns : List Nat) (i : Nat) : prs ws ns (i + 1) = prs ws ns i ++ [pr ws ns i] := by unfold prs; rw [List.range_succ, List.map_append]; rfl
theorem cellI {k : IntKind} {w : World} {A : Option Addr} {n : Nat} {xs : List Nat} (h : (nat k).C w A n xs) (i : Nat) (hi : i < n) : ∃ ad, A = some ad ∧ w.cell? (ad.add i) = some (.int k ((xs[i]?.getD 0 : Nat) : Int)) := by
 obtain ⟨ad, hA, hx⟩ := C_nat h i hi
 unfold gt at hx
 rw [List.getD_eq_getElem?_getD] at hx
 exact ⟨ad, hA, hx⟩
set_option maxHeartbeats 4000000 in
set_option maxRecDepth 100000 in
theorem rWeigh_calls (ws ns : List Nat) (A B : Option Addr) (n c m c2 t : Nat) (w : World) (ha : (nat .u32).C w A n ns) (hb : (nat .i64).C w B m ws) (hmn : m ≤ n) (h0 : 0 < m) (hm : m ≤ 16) (ht : t ≤ 4) (hw : ∀ j : Nat, j < m → 1 ≤ ws[j]?.getD 0 ∧ ws[j]?.getD 0 ≤ 16) (hs : ∀ j : Nat, ns[j]?.getD 0 < 4294967296) (htot : wtot (prs ws ns m) = 2 ^ t) :
    Calls Try.prog 70 #[.slice A n c, .slice B m c2] w fun e w' => e = .returned (.int .u32 ((wbits (prs ws ns m) : Nat) : Int)) ∧ Below w.heap.size w w' := by
 have HA := Aside0.mk ha
 have HB := Aside0.mk hb
 have HW := Aside0.mk hw
 have HS := Aside0.mk hs
 have HM := Aside0.mk hm
 have HTO := Aside0.mk htot
 have HT := Aside0.mk ht
 have HP : Aside0 (∀ i, i ≤ m → ∀ u ∈ prs ws ns i, 1 ≤ u.1 ∧ u.1 ≤ 16 ∧ u.2 < 2 ^ 32) := ⟨fun i hi u hu => by
  obtain ⟨j, hj, rfl⟩ := List.mem_map.mp hu
  have hj' : j < i := List.mem_range.mp hj
  exact ⟨(hw j (by omega)).1, (hw j (by omega)).2, hs j⟩⟩
 clear ha hb hw hs htot ht
 go_enter Try.func70, Try.ntmps70
 go_wp2
 go_loopw [5, 6, 7] (fun sw aw iw wr => ∃ (i v S : Nat), i ≤ m ∧ iw = .int .i64 (i : Int) ∧ sw = .int .i64 (S : Int) ∧ aw = .float .f64 v ∧ Aside0 ((wst (prs ws ns i)).2 = S) ∧ Aside0 (Dv v (wst (prs ws ns i)).1) ∧ Aside0 (Below w.heap.size w wr)) (fun _ _ iw _ => m - (intOf iw).toNat)
 case atStart => exact ⟨0, 0, 0, Nat.zero_le _, rfl, rfl, rfl, ⟨rfl⟩, ⟨rfl⟩, ⟨Below.refl _ _⟩⟩
 case round =>
  obtain ⟨i, v, S, hi, rfl, rfl, rfl, HSU, HV, BI⟩ := hrel
  by_cases hlt : i < m
  ·have c1 : decide ((i : Int) < (m : Int)) = true := decide_eq_true (by omega)
   have i1 : ((i : Int) < (m : Int)) = True := eq_true (by omega)
   have i2 : ((i : Int) < (n : Int)) = True := eq_true (by omega)
   have hSb : S ≤ 256 := by
    have h1 := wst2_le (prs ws ns i) (fun u hu => (HP.out i (by omega) u hu).2.1)
    rw [HSU.out] at h1
    have h2 : (prs ws ns i).length = i := by simp [prs]
    rw [h2] at h1
    omega
   obtain ⟨adA, hA, hxa⟩ := cellI (Kd.C_below HA.out BI.out) i (by omega)
   subst hA
   obtain ⟨adB, hB, hxb⟩ := cellI (Kd.C_below HB.out BI.out) i hlt
   subst hB
   obtain ⟨a, ha⟩ : ∃ a, ns[i]?.getD 0 = a := ⟨_, rfl⟩
   obtain ⟨wn, hwn⟩ : ∃ wn, ws[i]?.getD 0 = wn := ⟨_, rfl⟩
   have hwb := HW.out i hlt
   rw [ha] at hxa
   rw [hwn] at hxb hwb
   have HAL : Aside0 (a < 4294967296) := ⟨by rw [← ha]; exact HS.out i⟩
   have HPR : Aside0 (pr ws ns i = (wn, a)) := ⟨by unfold pr; rw [ha, hwn]⟩
   have XA_ := Aside0.mk hxa
   have XB_ := Aside0.mk hxb
   have HLT := Aside0.mk hlt
   obtain ⟨S2, hS2⟩ : ∃ S2, S + wn = S2 := ⟨_, rfl⟩
   have hS2b : S2 ≤ 1000000 := by omega
   have HS2 := Aside0.mk hS2
   have e9 : wrap64 ((S : Int) + (wn : Int)) = (S2 : Int) := by rw [← Int.natCast_add, hS2]; exact w64 (by omega) (by omega)
   clear ha hwn hxa hxb hS2 hS2b hwb hSb
   go_upto_region 6 with (fail)
   have B30 := Aside0.mk (below_drew1 BI.out)
   have XA30 : Aside0 (wr.drew.cell? (adA.add i) = some (.int .u32 (a : Int))) := ⟨XA_.out⟩
   have XB30 : Aside0 (wr.drew.cell? (adB.add i) = some (.int .i64 (wn : Int))) := ⟨XB_.out⟩
   clear BI XA_ XB_
   refine start_ (n := 12) (S := fun w' => w'.cell? (adB.add i) = some (.int .i64 (wn : Int)) ∧ w'.cell? (adA.add i) = some (.int .u32 (a : Int))) (ds := []) #[ff_,ff_,ff_,ff_,ff_,ff_,ff_,ff_,ff_,ff_,ff_,ff_] (by kernel_rfl) rfl rfl ⟨XB30.out, XA30.out⟩ (fun hHeld => ?_)
   generalize wr.drew = w30 at *
   refine pure_ (i := 0) (N := some 15) (v := ?_) (a' := ?_) #[tt_,ff_,ff_,ff_,ff_,ff_,ff_,ff_,ff_,ff_,ff_,ff_] rfl rfl (by kernel_rfl) (fun _ _ _ h => h) (Or.inl ⟨by rfl, ?_⟩) ?_ ?_
   rotate_left
   ·intro w'
    go_simp
    with_reducible rfl
   rotate_left
   ·simp only [Act.put, List.setIfInBounds_toArray, List.set_cons_zero, List.set_cons_succ, i64_w, i32_w]
    rfl
   refine pure_ (i := 1) (N := some 16) (v := ?_) (a' := ?_) #[tt_,tt_,ff_,ff_,ff_,ff_,ff_,ff_,ff_,ff_,ff_,ff_] rfl rfl (by kernel_rfl) (fun _ _ _ h => h) (Or.inl ⟨by rfl, ?_⟩) ?_ ?_
   rotate_left
   ·intro w'
    go_simp
    with_reducible rfl
   rotate_left
   ·simp only [Act.put, List.setIfInBounds_toArray, List.set_cons_zero, List.set_cons_succ, i64_w, i32_w]
    rfl
   refine pure_ (i := 2) (N := some 17) (v := ?_) (a' := ?_) #[tt_,tt_,tt_,ff_,ff_,ff_,ff_,ff_,ff_,ff_,ff_,ff_] rfl rfl (by kernel_rfl) (fun _ _ _ h => h) (Or.inl ⟨by rfl, ?_⟩) ?_ ?_
   rotate_left
   ·intro w'
    go_simp
    with_reducible rfl
   rotate_left
   ·simp only [Act.put, List.setIfInBounds_toArray, List.set_cons_zero, List.set_cons_succ, i64_w, i32_w]
    rfl
   refine pure_ (i := 5) (N := some 20) (v := ?_) (a' := ?_) #[tt_,tt_,tt_,ff_,ff_,tt_,ff_,ff_,ff_,ff_,ff_,ff_] rfl rfl (by kernel_rfl) (fun _ _ _ h => h) (Or.inl ⟨by rfl, ?_⟩) ?_ ?_
   rotate_left
   ·intro w'
    go_simp
    with_reducible rfl
   rotate_left
   ·simp only [Act.put, List.setIfInBounds_toArray, List.set_cons_zero, List.set_cons_succ, i64_w, i32_w]
    rfl
   refine pure_ (i := 6) (N := some 21) (v := ?_) (a' := ?_) #[tt_,tt_,tt_,ff_,ff_,tt_,tt_,ff_,ff_,ff_,ff_,ff_] rfl rfl (by kernel_rfl) (fun _ _ _ h => h) (Or.inl ⟨by rfl, ?_⟩) ?_ ?_
   rotate_left
   ·intro w'
    go_simp
    with_reducible rfl
   rotate_left
   ·simp only [Act.put, List.setIfInBounds_toArray, List.set_cons_zero, List.set_cons_succ, i64_w, i32_w]
    rfl
   refine pure_ (i := 7) (N := some 22) (v := ?_) (a' := ?_) #[tt_,tt_,tt_,ff_,ff_,tt_,tt_,tt_,ff_,ff_,ff_,ff_] rfl rfl (by kernel_rfl) (fun _ _ _ h => h) (Or.inl ⟨by rfl, ?_⟩) ?_ ?_
   rotate_left
   ·intro w'
    go_simp
    with_reducible rfl
   rotate_left
   ·simp only [Act.put, List.setIfInBounds_toArray, List.set_cons_zero, List.set_cons_succ, i64_w, i32_w]
    rfl
   refine take_ (i := 3) (N := some 18) (v := ?_) (a' := ?_) #[tt_,tt_,tt_,tt_,ff_,tt_,tt_,tt_,ff_,ff_,ff_,ff_] rfl rfl (by kernel_rfl) (fun _ _ _ h => h) (Or.inl ⟨by rfl, ?_⟩) hHeld ?_ ?_
   rotate_left
   ·rintro w' ⟨s0, s1⟩
    go_simp
    with_reducible rfl
   rotate_left
   ·simp only [Act.put, List.setIfInBounds_toArray, List.set_cons_zero, List.set_cons_succ, i64_w, i32_w]
    rfl
   refine pure_ (i := 4) (N := some 19) (v := ?_) (a' := ?_) #[tt_,tt_,tt_,tt_,tt_,tt_,tt_,tt_,ff_,ff_,ff_,ff_] rfl rfl (by kernel_rfl) (fun _ _ _ h => h) (Or.inl ⟨by rfl, ?_⟩) ?_ ?_
   rotate_left
   ·intro w'
    go_simp
    with_reducible rfl
   rotate_left
   ·simp only [Act.put, List.setIfInBounds_toArray, List.set_cons_zero, List.set_cons_succ, i64_w, i32_w]
    rfl
   refine take_ (i := 8) (N := some 23) (v := ?_) (a' := ?_) #[tt_,tt_,tt_,tt_,tt_,tt_,tt_,tt_,tt_,ff_,ff_,ff_] rfl rfl (by kernel_rfl) (fun _ _ _ h => h) (Or.inl ⟨by rfl, ?_⟩) hHeld ?_ ?_
   rotate_left
   ·rintro w' ⟨s0, s1⟩
    go_simp
    with_reducible rfl
   rotate_left
   ·simp only [Act.put, List.setIfInBounds_toArray, List.set_cons_zero, List.set_cons_succ, i64_w, i32_w]
    rfl
   refine one_ (i := 9) (N := some 24) #[tt_,tt_,tt_,tt_,tt_,tt_,tt_,tt_,tt_,tt_,ff_,ff_] rfl rfl (by kernel_rfl) (by decide) (fun K hK => ?_)
   refine goes_ Try.func76 (by kernel_rfl) rfl #[.int .u32 (a : Int)] (by rfl) rfl rfl (by (try simp only [List.map_toArray, List.map_cons, List.map_nil]); rfl) ?_
   refine (rFloat_calls a HAL.out _).mono ?_
   rintro e w31 ⟨v2, rfl, hb, hv2⟩
   refine ⟨_, rfl, ?_⟩
   have B31 := Aside0.mk (below_step B30.out hb)
   have XA31 := Aside0.mk (pw_cell_below hb XA30.out)
   have XB31 := Aside0.mk (pw_cell_below hb XB30.out)
   have HV2 := Aside0.mk (hv2)
   clear hb hv2
   refine hK.out _ _ ⟨XB31.out, XA31.out⟩ (fun hHeld => ?_)
   clear hK K
   refine norm_ (a' := ?_) ?_ ?_
   rotate_left
   ·show Act.put _ (some 24) _ = _
    simp only [Act.put, List.setIfInBounds_toArray, List.set_cons_zero, List.set_cons_succ, i64_w, i32_w]
    rfl
   refine one_ (i := 10) (N := some 25) #[tt_,tt_,tt_,tt_,tt_,tt_,tt_,tt_,tt_,tt_,tt_,ff_] rfl rfl (by kernel_rfl) (by decide) (fun K hK => ?_)
   obtain ⟨v3, m3, hr3, hv3⟩ := step_op .mul (.inr (.inl rfl)) 57 (show Dv (floatOfInt .f64 (wn : Int)) (some (floatOfInt .f64 (wn : Int))) from rfl) HV2.out w31
   refine value_ (w1 := ?_) (v := ?_) (by rfl) rfl ?_ ?_
   rotate_left 2
   ·go_simp
    constructor
    ·rfl
    ·rfl
   have B32 := Aside0.mk (below_step B31.out (pw_below_drewN (Below.refl _ _) m3))
   have XA32 := Aside0.mk (pw_cell_below (pw_below_drewN (Below.refl _ _) m3) XA31.out)
   have XB32 := Aside0.mk (pw_cell_below (pw_below_drewN (Below.refl _ _) m3) XB31.out)
   have HV3 := Aside0.mk (hv3)
   clear hv3
   generalize w31.drewN m3 = w32 at *
   refine hK.out _ _ ⟨XB32.out, XA32.out⟩ (fun hHeld => ?_)
   clear hK K
   refine norm_ (a' := ?_) ?_ ?_
   rotate_left
   ·show Act.put _ (some 25) _ = _
    simp only [Act.put, List.setIfInBounds_toArray, List.set_cons_zero, List.set_cons_succ, i64_w, i32_w]
    rfl
   refine pure_ (i := 11) (N := some 8) (v := ?_) (a' := ?_) #[tt_,tt_,tt_,tt_,tt_,tt_,tt_,tt_,tt_,tt_,tt_,tt_] rfl rfl (by kernel_rfl) (fun _ _ _ h => h) (Or.inl ⟨by rfl, ?_⟩) ?_ ?_
   rotate_left
   ·intro w'
    go_simp
    with_reducible rfl
   rotate_left
   ·simp only [Act.put, List.setIfInBounds_toArray, List.set_cons_zero, List.set_cons_succ, i64_w, i32_w]
    rfl
   refine done_ (by kernel_rfl) ?_
   clear hHeld
   have hxb := XB32.out
   have HV3' : Aside0 (Dv v3 (wprod wn a)) := ⟨HV3.out⟩
   by_cases hi0 : i = 0
   ·have tz : ((i : Int) == 0) = true := by rw [beq_iff_eq]; omega
    have HNX : Aside0 (Dv v3 (wst (prs ws ns (i + 1))).1 ∧ (wst (prs ws ns (i + 1))).2 = S2) := ⟨by
     have e1 : (wst (prs ws ns i)).2 = 0 := by rw [hi0]; rfl
     rw [prs_succ, wst_snoc, HPR.out, wstep, if_pos e1, HSU.out]
     exact ⟨HV3'.out, HS2.out⟩⟩
    clear hi0
    go_wp2
    go_roundw
    case measure => simp [intOf]; have := HLT.out; clear e9; omega
    case rel => exact ⟨i + 1, v3, S2, HLT.out, by go_num, by rw [e9], rfl, ⟨HNX.out.2⟩, ⟨HNX.out.1⟩, B32⟩
   ·have tz : ((i : Int) == 0) = false := by rw [beq_eq_false_iff_ne]; omega
    obtain ⟨v4, m4, hr4, hv4⟩ := step_op .add (.inl rfl) 57 HV.out HV3'.out w32
    have HNX : Aside0 (Dv v4 (wst (prs ws ns (i + 1))).1 ∧ (wst (prs ws ns (i + 1))).2 = S2) := ⟨by
     have e1 : (wst (prs ws ns i)).2 ≠ 0 := by
      have hne : prs ws ns i ≠ [] := by intro h; have := congrArg List.length h; simp [prs] at this; exact hi0 this
      have h1 := (wst_eq (prs ws ns i) hne (fun u hu => (HP.out i (by have := HLT.out; omega) u hu).1)).2
      rw [h1]
      cases h2 : prs ws ns i with
      | nil => exact absurd h2 hne
      | cons u l =>
       have h3 := (HP.out i (by have := HLT.out; omega) u (by rw [h2]; exact List.mem_cons_self)).1
       show u.1 + wtot l ≠ 0
       omega
     rw [prs_succ, wst_snoc, HPR.out, wstep, if_neg e1, HSU.out]
     exact ⟨hv4, HS2.out⟩⟩
    have B33 := Aside0.mk (below_step B32.out (pw_below_drewN (Below.refl _ _) m4))
    have hxb2 := pw_cell_below (pw_below_drewN (Below.refl _ _) m4) hxb
    clear hv4 hi0
    go_wp2
    go_roundw
    case measure => simp [intOf]; have := HLT.out; clear e9; omega
    case rel => exact ⟨i + 1, v4, S2, HLT.out, by go_num, by rw [e9], rfl, ⟨HNX.out.2⟩, ⟨HNX.out.1⟩, B33⟩
  ·obtain rfl : m = i := by omega
   have c1 : decide ((m : Int) < (m : Int)) = false := decide_eq_false (by omega)
   have hne : prs ws ns m ≠ [] := by intro h; have := congrArg List.length h; simp [prs] at this; omega
   obtain ⟨k1, k2⟩ := wst_eq (prs ws ns m) hne (fun u hu => (HP.out m (Nat.le_refl _) u hu).1)
   have hS : wtot (prs ws ns m) = S := k2.symm.trans HSU.out
   obtain ⟨v5, m5, hr5, hv5⟩ := step_op .quo (.inr (.inr rfl)) 57 HV.out (show Dv (floatOfInt .f64 (S : Int)) (some (floatOfInt .f64 (S : Int))) from rfl) wr
   have hv6 : Dv v5 (wmean (prs ws ns m)) := by rw [← k1, hS]; exact hv5
   have HV6 := Aside0.mk hv6
   have HTP : Aside0 (∀ u ∈ prs ws ns m, 1 ≤ u.1 ∧ u.2 < 2 ^ 32) := ⟨fun u hu => ⟨(HP.out m (Nat.le_refl _) u hu).1, (HP.out m (Nat.le_refl _) u hu).2.2⟩⟩
   have BZ := Aside0.mk (below_step BI.out (pw_below_drewN (Below.refl _ _) m5))
   clear hne k1 k2 hS hv5 hv6
   generalize wr.drewN m5 = wz at *
   go_wp2_with (first | (go_at_call 77; refine (rSample_calls (prs ws ns m) t HT.out HTP.out HTO.out v5 HV6.out _).mono ?_; rintro e w9 ⟨rfl, hb⟩; have BE := Aside0.mk (below_step BZ.out hb); clear hb))
   go_ret
   exact ⟨rfl, BE.out⟩
end Go.Proofs.Ytodlgdpkadkjjaa.A
end
section
set_option linter.unusedVariables false
set_option linter.unusedSimpArgs false
namespace Go.Proofs.Ytodlgdpkadkjjaa.A
open Go.RowKit Go.Shelf Go.Proofs.YtodlgdpkadkjjaaW.PrintWords Go.Proofs.YtodlgdpkadkjjaaW.PrintLast Go.Proofs.YtodlgdpkadkjjaaW.PrintMore Go.Proofs.Ytodlgdpkadkjjaa.PPyramidLevels
theorem clamp_nat (n : Nat) (z : Int) (w : World) (h1 : 1 ≤ n) (h2 : n ≤ 1024) (h3 : -10000 ≤ z) (h4 : z ≤ 10000) : Calls Try.prog 69 #[.int .i64 (n : Int), .int .i64 z] w fun e w' => e = .returned (.int .i64 (((cl z n).toNat : Nat) : Int)) ∧ Below w.heap.size w w' := by
 refine halideref14_clamp.calls (n : Int) z _ w ?_
 unfold halideref14_clamp.f
 rw [show wrap64 ((n : Int) - 1) = (n : Int) - 1 from w64 (by omega) (by omega)]
 congr 1
 have := cl_range z (n : Int) (by omega)
 unfold cl mx mn at *
 split <;> split <;> (try split) <;> omega
end Go.Proofs.Ytodlgdpkadkjjaa.A
end
section
set_option linter.unusedVariables false
set_option linter.unusedSimpArgs false
namespace Go.Proofs.Ytodlgdpkadkjjaa.A
open Go.RowKit Go.Shelf Go.Proofs.YtodlgdpkadkjjaaW.PrintWords Go.Proofs.YtodlgdpkadkjjaaW.PrintLast Go.Proofs.YtodlgdpkadkjjaaW.PrintMore Go.Proofs.Ytodlgdpkadkjjaa.PPyramidLevels
theorem rHalf (n : Nat) (w : World) (h : n ≤ 1024) : Calls Try.prog 45 #[.int .i64 (n : Int)] w fun e w' => e = .returned (.int .i64 ((hf n : Nat) : Int)) ∧ Below w.heap.size w w' := by
 refine (halideref14_Half.calls (n : Int) ((hf n : Nat) : Int) w ?_).mono (fun e w' h => ⟨h.1, h.2.below⟩)
 unfold halideref14_Half.f
 have e1 : wrap64 ((n : Int) + 1) = (n : Int) + 1 := w64 (by omega) (by omega)
 have e2 : ((n : Int) + 1).tdiv 2 = ((hf n : Nat) : Int) := rfl
 have h3 : hf n < 1000000 := by unfold hf; omega
 rw [e1, e2, w64 (by omega) (by omega)]
/-- a line halved, so far -/
def hlv (ns : List Nat) (n k : Nat) : List Nat := (List.range k).map (fun i => smp reduceS ns 1 i n)
def tls (ns : List Nat) (n i j : Nat) : List Nat := (List.range j).map (fun q => gt ns (cl (2 * (i : Int) - 2 + (q : Nat)) n).toNat)
theorem hlv_succ (ns : List Nat) (n k : Nat) : hlv ns n (k + 1) = hlv ns n k ++ [smp reduceS ns 1 k n] := by unfold hlv; rw [List.range_succ, List.map_append]; rfl
theorem tls_succ (ns : List Nat) (n i j : Nat) : tls ns n i (j + 1) = tls ns n i j ++ [gt ns (cl (2 * (i : Int) - 2 + (j : Nat)) n).toNat] := by unfold tls; rw [List.range_succ, List.map_append]; rfl
theorem prs_tls (ns : List Nat) (n i : Nat) : wbits (prs [1, 4, 6, 4, 1] (tls ns n i 5) 5) = smp reduceS ns 1 i n := by
 unfold smp
 congr 1
 refine List.map_congr_left (fun j hj => ?_)
 have hj' : j < 5 := List.mem_range.mp hj
 unfold pr tapN tls
 rw [List.getElem?_map, List.getElem?_range hj', Nat.mul_one]
 show (([1, 4, 6, 4, 1] : List Nat)[j]?.getD 0, gt ns (cl (2 * (i : Int) - 2 + (j : Nat)) n).toNat) = (([1, 4, 6, 4, 1] : List Nat)[j]?.getD 0, ns[(cl (2 * (i : Int) - 2 + (j : Nat)) n).toNat]?.getD 0)
 unfold gt
 rw [List.getD_eq_getElem?_getD]
set_option maxHeartbeats 4000000 in
set_option maxRecDepth 100000 in
theorem halved_calls (ns : List Nat) (A : Option Addr) (n c : Nat) (w : World) (hx : PL w A n c ns) (h1 : 1 ≤ n ∧ n ≤ 1024) (hs : ∀ i, gt ns i < 4294967296) :
    Calls Try.prog 46 #[.slice A n c] w fun e w' => ∃ v, e = .returned v ∧ (nat .u32).R 50 w' w.heap.size (fun _ => True) v (hlv ns n (hf n)) ∧ Below w.heap.size w w' := by
 have HX := Aside0.mk hx
 have HNB := Aside0.mk h1
 have HS := Aside0.mk hs
 have hfb : hf n ≤ 512 := by unfold hf; omega
 clear hx hs h1
 go_enter Try.func46, Try.ntmps46
 go_wp2
 go_loopw [3, 4] (fun ov iw wr => ∃ (i : Nat), i ≤ hf n ∧ iw = .int .i64 (i : Int) ∧ Aside0 ((nat .u32).R 50 wr w.heap.size (fun _ => True) ov (hlv ns n i)) ∧ Aside0 (Below w.heap.size w wr)) (fun _ iw _ => hf n - (intOf iw).toNat)
 case atStart => exact ⟨0, Nat.zero_le _, rfl, ⟨Kd.R_nil _ _ _ _ _⟩, ⟨Below.refl _ _⟩⟩
 case round =>
  obtain ⟨i, hi, rfl, RI, BI⟩ := hrel
  by_cases hlt : i < hf n
  ·have c1 : decide ((i : Int) < ((hf n : Nat) : Int)) = true := decide_eq_true (by omega)
   have HLT := Aside0.mk hlt
   have c1n : decide (i < hf n) = true := decide_eq_true hlt
   go_wp2_with (first | (go_at_call 45; refine (rHalf n _ HNB.out.2).mono ?_; rintro e wk ⟨rfl, hb⟩; have RK := Aside0.mk (Kd.R_below RI.out hb); have BK := Aside0.mk (below_step BI.out hb); clear hb))
   have BW := Aside0.mk (Below.refl wk.heap.size wk)
   have hib : i ≤ 512 := by omega
   have e1 : wrap64 (2 * (i : Int)) = 2 * (i : Int) := w64 (by omega) (by omega)
   go_loopw [5, 6] (fun mv kv w5 => ∃ (j : Nat) (z : Int), j ≤ 5 ∧ z = (j : Int) - 2 ∧ kv = .int .i64 z ∧ Aside0 ((nat .u32).R 50 w5 wk.heap.size (fun _ => True) mv (tls ns n i j)) ∧ Aside0 (Below wk.heap.size wk w5)) (fun _ kv _ => (3 - intOf kv).toNat)
   case atStart => exact ⟨0, -2, by omega, by omega, rfl, ⟨Kd.R_nil _ _ _ _ _⟩, BW⟩
   case round =>
    obtain ⟨j, z, hj, hz, rfl, RM, BM⟩ := hrel
    have HZ := Aside0.mk hz
    by_cases hz2 : z ≤ 2
    ·have c2 : decide (z ≤ 2) = true := decide_eq_true hz2
     obtain ⟨y, hy⟩ : ∃ y : Int, 2 * (i : Int) + z = y := ⟨_, rfl⟩
     have hyb : -10000 ≤ y ∧ y ≤ 10000 := by omega
     have hzb : -2 ≤ z := by omega
     have e2 : wrap64 (2 * (i : Int) + z) = y := by rw [hy]; exact w64 (by omega) (by omega)
     have e3 : wrap64 (z + 1) = z + 1 := w64 (by omega) (by omega)
     obtain ⟨q, hq⟩ : ∃ q, (cl y n).toNat = q := ⟨_, rfl⟩
     have hqn : q < n := by have := cl_range y (n : Int) (by have := HNB.out.1; clear e1 e2 e3; omega); clear e1 e2 e3; omega
     obtain ⟨ad, hA, hxq⟩ := C_nat (Kd.C_below HX.out.1 (below_step BK.out BM.out)) q hqn
     subst hA
     obtain ⟨a, ha⟩ : ∃ a, gt ns q = a := ⟨_, rfl⟩
     rw [ha] at hxq
     have i1 : ((q : Int) < (n : Int)) = True := eq_true (Int.ofNat_lt.mpr hqn)
     have ey : 2 * (i : Int) - 2 + ((j : Nat) : Int) = y := by clear e1 e2 e3; omega
     have HSU : Aside0 (tls ns n i j ++ [a] = tls ns n i (j + 1)) := ⟨by rw [tls_succ, ey, hq, ha]⟩
     clear ey
     have HLM : Aside0 (((tls ns n i j).length + 1) * 4 ≤ 140737488355328) := ⟨by simp [tls]; clear e1 e2 e3; omega⟩
     have HY : Aside0 ((-10000 ≤ y ∧ y ≤ 10000) ∧ (cl y n).toNat = q) := ⟨hyb, hq⟩
     have HJ : Aside0 (j + 1 ≤ 5 ∧ z + 1 = ((j + 1 : Nat) : Int) - 2) := ⟨by clear e1 e2 e3; omega⟩
     clear hy hyb hq hqn ha hz hzb
     go_wp2_with (first | (go_at_call 69; refine (clamp_nat n y _ HNB.out.1 HNB.out.2 HY.out.1.1 HY.out.1.2).mono ?_; rw [HY.out.2]; rintro e w7 ⟨rfl, hb⟩; have R7 := Aside0.mk (Kd.R_below RM.out hb); have B7 := Aside0.mk (below_step BM.out hb); have hx7 := pw_cell_below hb hxq; clear hb) | ((with_reducible refine gate_builtin (b := .append) (xs := #[.tmp 18, .tmp 29]) rfl ?_); at_builtin; refine Kd.R_append (nat .u32) (w0 := wk) wk.heap.size rfl (.tmp 18) (.tmp 29) 23 50 (.int .u32 0) 4 rfl Try.underlying23 info50 rfl (by decide) (by omega) _ (tls ns n i j) a [.int .u32 (a : Int)] (fun _ => True) (fun _ => False) rfl rfl rfl (fun _ hk => hk.elim) (fun _ _ => trivial) R7.out B7.out B7.out.size HLM.out ?_; intro v6 w6 hR1 hB1 hg1 hat1; rw [HSU.out] at hR1; have R6 := Aside0.mk hR1; have B6 := Aside0.mk hB1; clear hR1 hB1 hg1 hat1))
     go_roundw
     case measure => rw [e3]; show (3 - (z + 1)).toNat < (3 - z).toNat; clear e1 e2 e3; omega
     case rel => exact ⟨j + 1, z + 1, HJ.out.1, HJ.out.2, by rw [e3], R6, B6⟩
    ·obtain rfl : j = 5 := by omega
     have c2 : decide (z ≤ 2) = false := decide_eq_false hz2
     obtain ⟨A5, n5, c5, hv5, hL5⟩ := PL.of RM.out
     have hn5 : n5 = 5 := hL5.2.2.symm.trans (by simp [tls])
     subst hn5
     subst hv5
     have L5 := Aside0.mk hL5
     have HWS : Aside0 (∀ j : Nat, j < 5 → 1 ≤ ([1, 4, 6, 4, 1] : List Nat)[j]?.getD 0 ∧ ([1, 4, 6, 4, 1] : List Nat)[j]?.getD 0 ≤ 16) := ⟨by intro j hj; clear e1; rcases j with _ | _ | _ | _ | _ | j <;> first | exact ⟨by decide, by decide⟩ | omega⟩
     have HSS : Aside0 (∀ j : Nat, (tls ns n i 5)[j]?.getD 0 < 4294967296) := ⟨fun j => by
      by_cases h : j < 5
      ·unfold tls
       rw [List.getElem?_map, List.getElem?_range h]
       exact HS.out _
      ·rw [List.getElem?_eq_none (by simp [tls]; clear e1; omega)]; decide⟩
     have HTT : Aside0 (wtot (prs [1, 4, 6, 4, 1] (tls ns n i 5) 5) = 2 ^ 4) := ⟨rfl⟩
     have HLO : Aside0 (((hlv ns n i).length + 1) * 4 ≤ 140737488355328) := ⟨by simp [hlv]; clear e1; omega⟩
     clear hL5 hz hz2
     go_wp2_with (first | (go_at_call 70; refine (rWeigh_calls [1, 4, 6, 4, 1] (tls ns n i 5) A5 (some ⟨wr.heap.size, 0, none⟩) 5 c5 5 5 4 _ (L5.out.below (below_alloc (Below.refl _ _) _)).1 (C_new [1, 4, 6, 4, 1] (blk_new _ _) rfl (by decide)) (by decide) (by decide) (by decide) (by decide) HWS.out HSS.out HTT.out).mono ?_; rw [prs_tls]; rintro e w8 ⟨rfl, hb⟩; have B8 := Aside0.mk (below_step BM.out (below_step (below_alloc (Below.refl _ _) _) hb)); have RO := Aside0.mk (Kd.R_below RK.out B8.out); have BO := Aside0.mk (below_step BK.out B8.out); clear hb) | ((with_reducible refine gate_builtin (b := .append) (xs := #[.tmp 31, .tmp 35]) rfl ?_); at_builtin; refine Kd.R_append (nat .u32) (w0 := w) w.heap.size rfl (.tmp 31) (.tmp 35) 23 50 (.int .u32 0) 4 rfl Try.underlying23 info50 rfl (by decide) (by omega) _ (hlv ns n i) (smp reduceS ns 1 i n) [.int .u32 ((smp reduceS ns 1 i n : Nat) : Int)] (fun _ => True) (fun _ => False) rfl rfl rfl (fun _ hk => hk.elim) (fun _ _ => trivial) RO.out BO.out BO.out.size HLO.out ?_; intro v9 w9 hR1 hB1 hg1 hat1; rw [← hlv_succ] at hR1; have R9 := Aside0.mk hR1; have B9 := Aside0.mk hB1; clear hR1 hB1 hg1 hat1))
     go_roundw
     case measure => simp [intOf]; have := HLT.out; clear e1; omega
     case rel => exact ⟨i + 1, HLT.out, by go_num, R9, B9⟩
  ·obtain rfl : hf n = i := by omega
   have c1 : decide (((hf n : Nat) : Int) < ((hf n : Nat) : Int)) = false := decide_eq_false (by omega)
   go_wp2_with (first | (go_at_call 45; refine (rHalf n _ HNB.out.2).mono ?_; rintro e wk ⟨rfl, hb⟩; have RK := Aside0.mk (Kd.R_below RI.out hb); have BK := Aside0.mk (below_step BI.out hb); clear hb))
   go_ret
   exact ⟨_, rfl, RK.out, BK.out⟩
end Go.Proofs.Ytodlgdpkadkjjaa.A
end
section
set_option linter.unusedVariables false
set_option linter.unusedSimpArgs false
namespace Go.Proofs.Ytodlgdpkadkjjaa.A
open Go.RowKit Go.Shelf Go.Proofs.YtodlgdpkadkjjaaW.PrintWords Go.Proofs.YtodlgdpkadkjjaaW.PrintLast Go.Proofs.YtodlgdpkadkjjaaW.PrintMore Go.Proofs.Ytodlgdpkadkjjaa.PPyramidLevels
/-- a line doubled, so far -/
def dbl (ns : List Nat) (n k : Nat) : List Nat := (List.range k).map (fun x => smp expandS ns 1 x n)
theorem dbl_succ (ns : List Nat) (n k : Nat) : dbl ns n (k + 1) = dbl ns n k ++ [smp expandS ns 1 k n] := by unfold dbl; rw [List.range_succ, List.map_append]; rfl
theorem lit2 {w : World} (O : Obj) (cs : Array Value) (e : TypeId) : ((w.alloc O).alloc (.cells cs e (0, 0))).heap[w.heap.size + 1]? = some (.cells cs e (0, 0)) := by
 have h := blk_new (w.alloc O) (.cells cs e (0, 0))
 have e2 : (w.alloc O).heap.size = w.heap.size + 1 := Array.size_push ..
 rw [e2] at h
 exact h
theorem cl_in {x n : Nat} (h : x < n) : (cl (x : Int) n).toNat = x := by unfold cl; split <;> split <;> omega
theorem tap_at (wsN ns : List Nat) (f m : Int) (j : Nat) : tapN wsN ns 1 f m j = (wsN[j]?.getD 0, gt ns (cl (f + (j : Nat)) m).toNat) := by unfold tapN gt; rw [Nat.mul_one, List.getD_eq_getElem?_getD]
theorem smp_even {ns : List Nat} {n i x2 a b d : Nat} {y0 y2 : Int} (hx : i / 2 = x2) (hr : i % 2 = 0) (e0 : (x2 : Int) - 1 = y0) (e2 : (x2 : Int) + 1 = y2) (hn : x2 < n) (ha : gt ns (cl y0 n).toNat = a) (hb : gt ns x2 = b) (hd : gt ns (cl y2 n).toNat = d) : wbits (prs [1, 6, 1] [a, b, d] 3) = smp expandS ns 1 i n := by
 unfold smp expandS
 simp only [hr, if_true]
 congr 1
 have t : tapL [1, 6, 1] ns 1 (((i / 2 : Nat) : Int) - 1) (n : Int) = [tapN [1, 6, 1] ns 1 (((i / 2 : Nat) : Int) - 1) n 0, tapN [1, 6, 1] ns 1 (((i / 2 : Nat) : Int) - 1) n 1, tapN [1, 6, 1] ns 1 (((i / 2 : Nat) : Int) - 1) n 2] := rfl
 rw [t, tap_at, tap_at, tap_at, hx, show (x2 : Int) - 1 + ((0 : Nat) : Int) = y0 by omega, show (x2 : Int) - 1 + ((1 : Nat) : Int) = (x2 : Int) by omega, show (x2 : Int) - 1 + ((2 : Nat) : Int) = y2 by omega, cl_in hn, ha, hb, hd]
 rfl
theorem smp_odd {ns : List Nat} {n i x2 b d : Nat} {y2 : Int} (hx : i / 2 = x2) (hr : ¬ i % 2 = 0) (e2 : (x2 : Int) + 1 = y2) (hn : x2 < n) (hb : gt ns x2 = b) (hd : gt ns (cl y2 n).toNat = d) : wbits (prs [1, 1] [b, d] 2) = smp expandS ns 1 i n := by
 unfold smp expandS
 simp only [hr, if_false]
 congr 1
 have t : tapL [1, 1] ns 1 ((i / 2 : Nat) : Int) (n : Int) = [tapN [1, 1] ns 1 ((i / 2 : Nat) : Int) n 0, tapN [1, 1] ns 1 ((i / 2 : Nat) : Int) n 1] := rfl
 rw [t, tap_at, tap_at, hx, show (x2 : Int) + ((0 : Nat) : Int) = (x2 : Int) by omega, show (x2 : Int) + ((1 : Nat) : Int) = y2 by omega, cl_in hn, hb, hd]
 rfl
set_option maxHeartbeats 4000000 in
set_option maxRecDepth 100000 in
theorem doubled_calls (ns : List Nat) (A : Option Addr) (n c m : Nat) (w : World) (hx : PL w A n c ns) (h1 : 1 ≤ n ∧ n ≤ 1024) (h2 : hf m = n) (h3 : m ≤ 1024) (hs : ∀ i, gt ns i < 4294967296) :
    Calls Try.prog 50 #[.slice A n c, .int .i64 (m : Int)] w fun e w' => ∃ v, e = .returned v ∧ (nat .u32).R 50 w' w.heap.size (fun _ => True) v (dbl ns n m) ∧ Below w.heap.size w w' := by
 have HX := Aside0.mk hx
 have HNB := Aside0.mk h1
 have HS := Aside0.mk hs
 have HF := Aside0.mk h2
 clear hx hs h1 h2
 go_enter Try.func50, Try.ntmps50
 go_wp2
 go_loopw [5, 6] (fun ov iw wr => ∃ (i : Nat), i ≤ m ∧ iw = .int .i64 (i : Int) ∧ Aside0 ((nat .u32).R 50 wr w.heap.size (fun _ => True) ov (dbl ns n i)) ∧ Aside0 (Below w.heap.size w wr)) (fun _ iw _ => m - (intOf iw).toNat)
 case atStart => exact ⟨0, Nat.zero_le _, rfl, ⟨Kd.R_nil _ _ _ _ _⟩, ⟨Below.refl _ _⟩⟩
 case round =>
  obtain ⟨i, hi, rfl, RI, BI⟩ := hrel
  by_cases hlt : i < m
  ·have c1 : decide ((i : Int) < (m : Int)) = true := decide_eq_true (by omega)
   have HLT := Aside0.mk hlt
   obtain ⟨x2, hx2⟩ : ∃ x2, i / 2 = x2 := ⟨_, rfl⟩
   have hxn : x2 < n := by have h9 := HF.out; unfold hf at h9; omega
   obtain ⟨y0, hy0⟩ : ∃ y : Int, (x2 : Int) - 1 = y := ⟨_, rfl⟩
   obtain ⟨y2, hy2⟩ : ∃ y : Int, (x2 : Int) + 1 = y := ⟨_, rfl⟩
   obtain ⟨q0, hq0⟩ : ∃ q, (cl y0 n).toNat = q := ⟨_, rfl⟩
   obtain ⟨q2, hq2⟩ : ∃ q, (cl y2 n).toNat = q := ⟨_, rfl⟩
   have HY0 : Aside0 ((-10000 ≤ y0 ∧ y0 ≤ 10000) ∧ (cl y0 n).toNat = q0) := ⟨by omega, hq0⟩
   have HY2 : Aside0 ((-10000 ≤ y2 ∧ y2 ≤ 10000) ∧ (cl y2 n).toNat = q2) := ⟨by omega, hq2⟩
   have hq0n : q0 < n := by rw [← hq0]; have h8 := HNB.out.1; have h9 := cl_range y0 (n : Int) (by omega); omega
   have hq2n : q2 < n := by rw [← hq2]; have h8 := HNB.out.1; have h9 := cl_range y2 (n : Int) (by omega); omega
   obtain ⟨ad, hA, k0⟩ := C_nat (Kd.C_below HX.out.1 BI.out) q0 hq0n
   subst hA
   obtain ⟨ad1, hA, k1⟩ := C_nat (Kd.C_below HX.out.1 BI.out) x2 hxn
   injection hA with hA
   subst hA
   obtain ⟨ad2, hA, k2⟩ := C_nat (Kd.C_below HX.out.1 BI.out) q2 hq2n
   injection hA with hA
   subst hA
   obtain ⟨a, ha⟩ : ∃ a, gt ns q0 = a := ⟨_, rfl⟩
   obtain ⟨b, hb⟩ : ∃ b, gt ns x2 = b := ⟨_, rfl⟩
   obtain ⟨d, hd⟩ : ∃ d, gt ns q2 = d := ⟨_, rfl⟩
   rw [ha] at k0
   rw [hb] at k1
   rw [hd] at k2
   have HAV : Aside0 (gt ns q0 = a ∧ gt ns x2 = b ∧ gt ns q2 = d) := ⟨⟨ha, hb, hd⟩⟩
   have HXV : Aside0 (i / 2 = x2 ∧ (x2 : Int) - 1 = y0 ∧ (x2 : Int) + 1 = y2) := ⟨⟨hx2, hy0, hy2⟩⟩
   have i1 : ((q0 : Int) < (n : Int)) = True := eq_true (Int.ofNat_lt.mpr hq0n)
   have i2 : ((x2 : Int) < (n : Int)) = True := eq_true (Int.ofNat_lt.mpr hxn)
   have i3 : ((q2 : Int) < (n : Int)) = True := eq_true (Int.ofNat_lt.mpr hq2n)
   have hxb : x2 ≤ 512 := by omega
   obtain ⟨r2, hr2⟩ : ∃ r, i % 2 = r := ⟨_, rfl⟩
   have hr3 : r2 < 2 := by omega
   have HR2 := Aside0.mk hr2
   have g1 : (i : Int).tdiv 2 = (x2 : Int) := by rw [← hx2]; rfl
   have g5 : (i : Int).tmod 2 = (r2 : Int) := by rw [← hr2]; rfl
   have g2 : wrap64 (x2 : Int) = (x2 : Int) := w64 (by omega) (by omega)
   have v0 : IntKind.i64.wrap (x2 : Int) = (x2 : Int) := by simp only [i64_w]; exact g2
   have v1 : IntKind.i64.wrap ((x2 : Int) - 1) = y0 := by simp only [i64_w]; rw [hy0]; exact w64 (by clear g2 v0; omega) (by clear g2 v0; omega)
   have v2 : IntKind.i64.wrap ((x2 : Int) + 1) = y2 := by simp only [i64_w]; rw [hy2]; exact w64 (by clear g2 v0 v1; omega) (by clear g2 v0 v1; omega)
   have K0 := Aside0.mk k0
   have K1 := Aside0.mk k1
   have K2 := Aside0.mk k2
   clear hx2 hy0 hy2 hq0 hq2 hq0n hq2n hxn ha hb hd k0 k1 k2 hr2 hxb
   go_upto_region 5 with (fail)
   have B30 : Aside0 (Below wr.heap.size wr wr.drew) := ⟨below_drew1 (Below.refl _ _)⟩
   have X0_30 : Aside0 (wr.drew.cell? (ad.add q0) = some (.int .u32 (a : Int))) := ⟨K0.out⟩
   have X1_30 : Aside0 (wr.drew.cell? (ad.add x2) = some (.int .u32 (b : Int))) := ⟨K1.out⟩
   have X2_30 : Aside0 (wr.drew.cell? (ad.add q2) = some (.int .u32 (d : Int))) := ⟨K2.out⟩
   refine start_ (n := 26) (S := fun w' => w'.cell? (ad.add q0) = some (.int .u32 (a : Int)) ∧ w'.cell? (ad.add x2) = some (.int .u32 (b : Int)) ∧ w'.cell? (ad.add q2) = some (.int .u32 (d : Int))) (ds := []) #[ff_,ff_,ff_,ff_,ff_,ff_,ff_,ff_,ff_,ff_,ff_,ff_,ff_,ff_,ff_,ff_,ff_,ff_,ff_,ff_,ff_,ff_,ff_,ff_,ff_,ff_] (by kernel_rfl) rfl rfl ⟨X0_30.out, X1_30.out, X2_30.out⟩ (fun hHeld => ?_)
   generalize wr.drew = w30 at *
   refine pure_ (i := 0) (N := some 15) (v := ?_) (a' := ?_) #[tt_,ff_,ff_,ff_,ff_,ff_,ff_,ff_,ff_,ff_,ff_,ff_,ff_,ff_,ff_,ff_,ff_,ff_,ff_,ff_,ff_,ff_,ff_,ff_,ff_,ff_] rfl rfl (by kernel_rfl) (fun _ _ _ h => h) (Or.inl ⟨by rfl, ?_⟩) ?_ ?_
   rotate_left
   ·intro w'
    go_simp
    with_reducible rfl
   rotate_left
   ·simp only [Act.put, List.setIfInBounds_toArray, List.set_cons_zero, List.set_cons_succ, i64_w, i32_w]
    rfl
   refine pure_ (i := 1) (N := some 16) (v := ?_) (a' := ?_) #[tt_,tt_,ff_,ff_,ff_,ff_,ff_,ff_,ff_,ff_,ff_,ff_,ff_,ff_,ff_,ff_,ff_,ff_,ff_,ff_,ff_,ff_,ff_,ff_,ff_,ff_] rfl rfl (by kernel_rfl) (fun _ _ _ h => h) (Or.inl ⟨by rfl, ?_⟩) ?_ ?_
   rotate_left
   ·intro w'
    go_simp
    with_reducible rfl
   rotate_left
   ·simp only [Act.put, List.setIfInBounds_toArray, List.set_cons_zero, List.set_cons_succ, i64_w, i32_w]
    rfl
   refine pure_ (i := 2) (N := some 17) (v := ?_) (a' := ?_) #[tt_,tt_,tt_,ff_,ff_,ff_,ff_,ff_,ff_,ff_,ff_,ff_,ff_,ff_,ff_,ff_,ff_,ff_,ff_,ff_,ff_,ff_,ff_,ff_,ff_,ff_] rfl rfl (by kernel_rfl) (fun _ _ _ h => h) (Or.inl ⟨by rfl, ?_⟩) ?_ ?_
   rotate_left
   ·intro w'
    go_simp
    with_reducible rfl
   rotate_left
   ·simp only [Act.put, List.setIfInBounds_toArray, List.set_cons_zero, List.set_cons_succ, i64_w, i32_w]
    rfl
   refine pure_ (i := 3) (N := some 18) (v := ?_) (a' := ?_) #[tt_,tt_,tt_,tt_,ff_,ff_,ff_,ff_,ff_,ff_,ff_,ff_,ff_,ff_,ff_,ff_,ff_,ff_,ff_,ff_,ff_,ff_,ff_,ff_,ff_,ff_] rfl rfl (by kernel_rfl) (fun _ _ _ h => h) (Or.inl ⟨by rfl, ?_⟩) ?_ ?_
   rotate_left
   ·intro w'
    go_simp
    with_reducible rfl
   rotate_left
   ·simp only [Act.put, List.setIfInBounds_toArray, List.set_cons_zero, List.set_cons_succ, i64_w, i32_w]
    rfl
   refine pure_ (i := 4) (N := some 19) (v := ?_) (a' := ?_) #[tt_,tt_,tt_,tt_,tt_,ff_,ff_,ff_,ff_,ff_,ff_,ff_,ff_,ff_,ff_,ff_,ff_,ff_,ff_,ff_,ff_,ff_,ff_,ff_,ff_,ff_] rfl rfl (by kernel_rfl) (fun _ _ _ h => h) (Or.inl ⟨by rfl, ?_⟩) ?_ ?_
   rotate_left
   ·intro w'
    go_simp
    with_reducible rfl
   rotate_left
   ·simp only [Act.put, List.setIfInBounds_toArray, List.set_cons_zero, List.set_cons_succ, i64_w, i32_w]
    rfl
   refine pure_ (i := 5) (N := some 20) (v := ?_) (a' := ?_) #[tt_,tt_,tt_,tt_,tt_,tt_,ff_,ff_,ff_,ff_,ff_,ff_,ff_,ff_,ff_,ff_,ff_,ff_,ff_,ff_,ff_,ff_,ff_,ff_,ff_,ff_] rfl rfl (by kernel_rfl) (fun _ _ _ h => h) (Or.inl ⟨by rfl, ?_⟩) ?_ ?_
   rotate_left
   ·intro w'
    go_simp
    with_reducible rfl
   rotate_left
   ·simp only [Act.put, List.setIfInBounds_toArray, List.set_cons_zero, List.set_cons_succ, i64_w, i32_w]
    rfl
   refine pure_ (i := 9) (N := some 24) (v := ?_) (a' := ?_) #[tt_,tt_,tt_,tt_,tt_,tt_,ff_,ff_,ff_,tt_,ff_,ff_,ff_,ff_,ff_,ff_,ff_,ff_,ff_,ff_,ff_,ff_,ff_,ff_,ff_,ff_] rfl rfl (by kernel_rfl) (fun _ _ _ h => h) (Or.inl ⟨by rfl, ?_⟩) ?_ ?_
   rotate_left
   ·intro w'
    go_simp
    with_reducible rfl
   rotate_left
   ·simp only [Act.put, List.setIfInBounds_toArray, List.set_cons_zero, List.set_cons_succ, i64_w, i32_w]
    rfl
   refine pure_ (i := 10) (N := some 25) (v := ?_) (a' := ?_) #[tt_,tt_,tt_,tt_,tt_,tt_,ff_,ff_,ff_,tt_,tt_,ff_,ff_,ff_,ff_,ff_,ff_,ff_,ff_,ff_,ff_,ff_,ff_,ff_,ff_,ff_] rfl rfl (by kernel_rfl) (fun _ _ _ h => h) (Or.inl ⟨by rfl, ?_⟩) ?_ ?_
   rotate_left
   ·intro w'
    go_simp
    with_reducible rfl
   rotate_left
   ·simp only [Act.put, List.setIfInBounds_toArray, List.set_cons_zero, List.set_cons_succ, i64_w, i32_w]
    rfl
   refine pure_ (i := 11) (N := some 26) (v := ?_) (a' := ?_) #[tt_,tt_,tt_,tt_,tt_,tt_,ff_,ff_,ff_,tt_,tt_,tt_,ff_,ff_,ff_,ff_,ff_,ff_,ff_,ff_,ff_,ff_,ff_,ff_,ff_,ff_] rfl rfl (by kernel_rfl) (fun _ _ _ h => h) (Or.inl ⟨by rfl, ?_⟩) ?_ ?_
   rotate_left
   ·intro w'
    go_simp
    with_reducible rfl
   rotate_left
   ·simp only [Act.put, List.setIfInBounds_toArray, List.set_cons_zero, List.set_cons_succ, i64_w, i32_w]
    rfl
   refine pure_ (i := 12) (N := some 27) (v := ?_) (a' := ?_) #[tt_,tt_,tt_,tt_,tt_,tt_,ff_,ff_,ff_,tt_,tt_,tt_,tt_,ff_,ff_,ff_,ff_,ff_,ff_,ff_,ff_,ff_,ff_,ff_,ff_,ff_] rfl rfl (by kernel_rfl) (fun _ _ _ h => h) (Or.inl ⟨by rfl, ?_⟩) ?_ ?_
   rotate_left
   ·intro w'
    go_simp
    with_reducible rfl
   rotate_left
   ·simp only [Act.put, List.setIfInBounds_toArray, List.set_cons_zero, List.set_cons_succ, i64_w, i32_w]
    rfl
   refine pure_ (i := 14) (N := some 29) (v := ?_) (a' := ?_) #[tt_,tt_,tt_,tt_,tt_,tt_,ff_,ff_,ff_,tt_,tt_,tt_,tt_,ff_,tt_,ff_,ff_,ff_,ff_,ff_,ff_,ff_,ff_,ff_,ff_,ff_] rfl rfl (by kernel_rfl) (fun _ _ _ h => h) (Or.inl ⟨by rfl, ?_⟩) ?_ ?_
   rotate_left
   ·intro w'
    go_simp
    with_reducible rfl
   rotate_left
   ·simp only [Act.put, List.setIfInBounds_toArray, List.set_cons_zero, List.set_cons_succ, i64_w, i32_w]
    rfl
   refine pure_ (i := 15) (N := some 30) (v := ?_) (a' := ?_) #[tt_,tt_,tt_,tt_,tt_,tt_,ff_,ff_,ff_,tt_,tt_,tt_,tt_,ff_,tt_,tt_,ff_,ff_,ff_,ff_,ff_,ff_,ff_,ff_,ff_,ff_] rfl rfl (by kernel_rfl) (fun _ _ _ h => h) (Or.inl ⟨by rfl, ?_⟩) ?_ ?_
   rotate_left
   ·intro w'
    go_simp
    with_reducible rfl
   rotate_left
   ·simp only [Act.put, List.setIfInBounds_toArray, List.set_cons_zero, List.set_cons_succ, i64_w, i32_w]
    rfl
   refine pure_ (i := 16) (N := some 31) (v := ?_) (a' := ?_) #[tt_,tt_,tt_,tt_,tt_,tt_,ff_,ff_,ff_,tt_,tt_,tt_,tt_,ff_,tt_,tt_,tt_,ff_,ff_,ff_,ff_,ff_,ff_,ff_,ff_,ff_] rfl rfl (by kernel_rfl) (fun _ _ _ h => h) (Or.inl ⟨by rfl, ?_⟩) ?_ ?_
   rotate_left
   ·intro w'
    go_simp
    with_reducible rfl
   rotate_left
   ·simp only [Act.put, List.setIfInBounds_toArray, List.set_cons_zero, List.set_cons_succ, i64_w, i32_w]
    rfl
   refine pure_ (i := 17) (N := some 32) (v := ?_) (a' := ?_) #[tt_,tt_,tt_,tt_,tt_,tt_,ff_,ff_,ff_,tt_,tt_,tt_,tt_,ff_,tt_,tt_,tt_,tt_,ff_,ff_,ff_,ff_,ff_,ff_,ff_,ff_] rfl rfl (by kernel_rfl) (fun _ _ _ h => h) (Or.inl ⟨by rfl, ?_⟩) ?_ ?_
   rotate_left
   ·intro w'
    go_simp
    with_reducible rfl
   rotate_left
   ·simp only [Act.put, List.setIfInBounds_toArray, List.set_cons_zero, List.set_cons_succ, i64_w, i32_w]
    rfl
   refine pure_ (i := 18) (N := some 33) (v := ?_) (a' := ?_) #[tt_,tt_,tt_,tt_,tt_,tt_,ff_,ff_,ff_,tt_,tt_,tt_,tt_,ff_,tt_,tt_,tt_,tt_,tt_,ff_,ff_,ff_,ff_,ff_,ff_,ff_] rfl rfl (by kernel_rfl) (fun _ _ _ h => h) (Or.inl ⟨by rfl, ?_⟩) ?_ ?_
   rotate_left
   ·intro w'
    go_simp
    with_reducible rfl
   rotate_left
   ·simp only [Act.put, List.setIfInBounds_toArray, List.set_cons_zero, List.set_cons_succ, i64_w, i32_w]
    rfl
   refine pure_ (i := 19) (N := some 34) (v := ?_) (a' := ?_) #[tt_,tt_,tt_,tt_,tt_,tt_,ff_,ff_,ff_,tt_,tt_,tt_,tt_,ff_,tt_,tt_,tt_,tt_,tt_,tt_,ff_,ff_,ff_,ff_,ff_,ff_] rfl rfl (by kernel_rfl) (fun _ _ _ h => h) (Or.inl ⟨by rfl, ?_⟩) ?_ ?_
   rotate_left
   ·intro w'
    go_simp
    with_reducible rfl
   rotate_left
   ·simp only [Act.put, List.setIfInBounds_toArray, List.set_cons_zero, List.set_cons_succ, i64_w, i32_w]
    rfl
   refine take_ (i := 13) (N := some 28) (v := ?_) (a' := ?_) #[tt_,tt_,tt_,tt_,tt_,tt_,ff_,ff_,ff_,tt_,tt_,tt_,tt_,tt_,tt_,tt_,tt_,tt_,tt_,tt_,ff_,ff_,ff_,ff_,ff_,ff_] rfl rfl (by kernel_rfl) (fun _ _ _ h => h) (Or.inl ⟨by rfl, ?_⟩) hHeld ?_ ?_
   rotate_left
   ·rintro w' ⟨s0, s1, s2⟩
    go_simp
    with_reducible rfl
   rotate_left
   ·simp only [Act.put, List.setIfInBounds_toArray, List.set_cons_zero, List.set_cons_succ, i64_w, i32_w]
    rfl
   refine one_ (i := 6) (N := some 21) #[tt_,tt_,tt_,tt_,tt_,tt_,tt_,ff_,ff_,tt_,tt_,tt_,tt_,tt_,tt_,tt_,tt_,tt_,tt_,tt_,ff_,ff_,ff_,ff_,ff_,ff_] rfl rfl (by kernel_rfl) (by decide) (fun K hK => ?_)
   refine goes_ Try.func69 (by kernel_rfl) rfl #[.int .i64 (n : Int), .int .i64 y0] (by rfl) rfl rfl (by (try simp only [List.map_toArray, List.map_cons, List.map_nil]); rfl) ?_
   refine (clamp_nat n y0 _ HNB.out.1 HNB.out.2 HY0.out.1.1 HY0.out.1.2).mono ?_
   rw [HY0.out.2]
   rintro e w31 ⟨rfl, hb⟩
   refine ⟨_, rfl, ?_⟩
   have B31 := Aside0.mk (below_step B30.out hb)
   have X0_31 := Aside0.mk (pw_cell_below hb X0_30.out)
   have X1_31 := Aside0.mk (pw_cell_below hb X1_30.out)
   have X2_31 := Aside0.mk (pw_cell_below hb X2_30.out)
   clear hb
   refine hK.out _ _ ⟨X0_31.out, X1_31.out, X2_31.out⟩ (fun hHeld => ?_)
   clear hK K
   refine norm_ (a' := ?_) ?_ ?_
   rotate_left
   ·show Act.put _ (some 21) _ = _
    simp only [Act.put, List.setIfInBounds_toArray, List.set_cons_zero, List.set_cons_succ, i64_w, i32_w]
    rfl
   refine pure_ (i := 7) (N := some 22) (v := ?_) (a' := ?_) #[tt_,tt_,tt_,tt_,tt_,tt_,tt_,tt_,ff_,tt_,tt_,tt_,tt_,tt_,tt_,tt_,tt_,tt_,tt_,tt_,ff_,ff_,ff_,ff_,ff_,ff_] rfl rfl (by kernel_rfl) (fun _ _ _ h => h) (Or.inl ⟨by rfl, ?_⟩) ?_ ?_
   rotate_left
   ·intro w'
    go_simp
    with_reducible rfl
   rotate_left
   ·simp only [Act.put, List.setIfInBounds_toArray, List.set_cons_zero, List.set_cons_succ, i64_w, i32_w]
    rfl
   refine take_ (i := 8) (N := some 23) (v := ?_) (a' := ?_) #[tt_,tt_,tt_,tt_,tt_,tt_,tt_,tt_,tt_,tt_,tt_,tt_,tt_,tt_,tt_,tt_,tt_,tt_,tt_,tt_,ff_,ff_,ff_,ff_,ff_,ff_] rfl rfl (by kernel_rfl) (fun _ _ _ h => h) (Or.inl ⟨by rfl, ?_⟩) hHeld ?_ ?_
   rotate_left
   ·rintro w' ⟨s0, s1, s2⟩
    go_simp
    with_reducible rfl
   rotate_left
   ·simp only [Act.put, List.setIfInBounds_toArray, List.set_cons_zero, List.set_cons_succ, i64_w, i32_w]
    rfl
   refine one_ (i := 20) (N := some 35) #[tt_,tt_,tt_,tt_,tt_,tt_,tt_,tt_,tt_,tt_,tt_,tt_,tt_,tt_,tt_,tt_,tt_,tt_,tt_,tt_,tt_,ff_,ff_,ff_,ff_,ff_] rfl rfl (by kernel_rfl) (by decide) (fun K hK => ?_)
   refine goes_ Try.func69 (by kernel_rfl) rfl #[.int .i64 (n : Int), .int .i64 y2] (by rfl) rfl rfl (by (try simp only [List.map_toArray, List.map_cons, List.map_nil]); rfl) ?_
   refine (clamp_nat n y2 _ HNB.out.1 HNB.out.2 HY2.out.1.1 HY2.out.1.2).mono ?_
   rw [HY2.out.2]
   rintro e w32 ⟨rfl, hb⟩
   refine ⟨_, rfl, ?_⟩
   have B32 := Aside0.mk (below_step B31.out hb)
   have X0_32 := Aside0.mk (pw_cell_below hb X0_31.out)
   have X1_32 := Aside0.mk (pw_cell_below hb X1_31.out)
   have X2_32 := Aside0.mk (pw_cell_below hb X2_31.out)
   clear hb
   refine hK.out _ _ ⟨X0_32.out, X1_32.out, X2_32.out⟩ (fun hHeld => ?_)
   clear hK K
   refine norm_ (a' := ?_) ?_ ?_
   rotate_left
   ·show Act.put _ (some 35) _ = _
    simp only [Act.put, List.setIfInBounds_toArray, List.set_cons_zero, List.set_cons_succ, i64_w, i32_w]
    rfl
   refine pure_ (i := 21) (N := some 36) (v := ?_) (a' := ?_) #[tt_,tt_,tt_,tt_,tt_,tt_,tt_,tt_,tt_,tt_,tt_,tt_,tt_,tt_,tt_,tt_,tt_,tt_,tt_,tt_,tt_,tt_,ff_,ff_,ff_,ff_] rfl rfl (by kernel_rfl) (fun _ _ _ h => h) (Or.inl ⟨by rfl, ?_⟩) ?_ ?_
   rotate_left
   ·intro w'
    go_simp
    with_reducible rfl
   rotate_left
   ·simp only [Act.put, List.setIfInBounds_toArray, List.set_cons_zero, List.set_cons_succ, i64_w, i32_w]
    rfl
   refine pure_ (i := 23) (N := some 7) (v := ?_) (a' := ?_) #[tt_,tt_,tt_,tt_,tt_,tt_,tt_,tt_,tt_,tt_,tt_,tt_,tt_,tt_,tt_,tt_,tt_,tt_,tt_,tt_,tt_,tt_,ff_,tt_,ff_,ff_] rfl rfl (by kernel_rfl) (fun _ _ _ h => h) (Or.inl ⟨by rfl, ?_⟩) ?_ ?_
   rotate_left
   ·intro w'
    go_simp
    with_reducible rfl
   rotate_left
   ·simp only [Act.put, List.setIfInBounds_toArray, List.set_cons_zero, List.set_cons_succ, i64_w, i32_w]
    rfl
   refine pure_ (i := 24) (N := some 8) (v := ?_) (a' := ?_) #[tt_,tt_,tt_,tt_,tt_,tt_,tt_,tt_,tt_,tt_,tt_,tt_,tt_,tt_,tt_,tt_,tt_,tt_,tt_,tt_,tt_,tt_,ff_,tt_,tt_,ff_] rfl rfl (by kernel_rfl) (fun _ _ _ h => h) (Or.inl ⟨by rfl, ?_⟩) ?_ ?_
   rotate_left
   ·intro w'
    go_simp
    with_reducible rfl
   rotate_left
   ·simp only [Act.put, List.setIfInBounds_toArray, List.set_cons_zero, List.set_cons_succ, i64_w, i32_w]
    rfl
   refine take_ (i := 22) (N := some 37) (v := ?_) (a' := ?_) #[tt_,tt_,tt_,tt_,tt_,tt_,tt_,tt_,tt_,tt_,tt_,tt_,tt_,tt_,tt_,tt_,tt_,tt_,tt_,tt_,tt_,tt_,tt_,tt_,tt_,ff_] rfl rfl (by kernel_rfl) (fun _ _ _ h => h) (Or.inl ⟨by rfl, ?_⟩) hHeld ?_ ?_
   rotate_left
   ·rintro w' ⟨s0, s1, s2⟩
    go_simp
    with_reducible rfl
   rotate_left
   ·simp only [Act.put, List.setIfInBounds_toArray, List.set_cons_zero, List.set_cons_succ, i64_w, i32_w]
    rfl
   refine pure_ (i := 25) (N := some 9) (v := ?_) (a' := ?_) #[tt_,tt_,tt_,tt_,tt_,tt_,tt_,tt_,tt_,tt_,tt_,tt_,tt_,tt_,tt_,tt_,tt_,tt_,tt_,tt_,tt_,tt_,tt_,tt_,tt_,tt_] rfl rfl (by kernel_rfl) (fun _ _ _ h => h) (Or.inl ⟨by rfl, ?_⟩) ?_ ?_
   rotate_left
   ·intro w'
    go_simp
    with_reducible rfl
   rotate_left
   ·simp only [Act.put, List.setIfInBounds_toArray, List.set_cons_zero, List.set_cons_succ, i64_w, i32_w]
    rfl
   refine done_ (by kernel_rfl) ?_
   clear hHeld
   by_cases hr0 : r2 = 0
   ·have tz : ((r2 : Int) == 0) = true := by rw [beq_iff_eq]; omega
    have HWS : Aside0 (∀ j : Nat, j < 3 → 1 ≤ ([1, 6, 1] : List Nat)[j]?.getD 0 ∧ ([1, 6, 1] : List Nat)[j]?.getD 0 ≤ 16) := ⟨by intro j hj; clear v0 v1 v2 g2; rcases j with _ | _ | _ | j <;> first | exact ⟨by decide, by decide⟩ | omega⟩
    have HSS : Aside0 (∀ j : Nat, ([a, b, d] : List Nat)[j]?.getD 0 < 4294967296) := ⟨by intro j; have ha := HS.out; (try rw [← HAV.out.1]); rw [← HAV.out.2.1, ← HAV.out.2.2]; rcases j with _ | _ | _ | j <;> first | exact ha _ | exact (by decide : (0 : Nat) < 4294967296)⟩
    have HTT : Aside0 (wtot (prs [1, 6, 1] [a, b, d] 3) = 2 ^ 3) := ⟨rfl⟩
    have HSM : Aside0 (wbits (prs [1, 6, 1] [a, b, d] 3) = smp expandS ns 1 i n) := ⟨smp_even HXV.out.1 (HR2.out.trans hr0) HXV.out.2.1 HXV.out.2.2 (by have h9 := HF.out; have h8 := HXV.out.1; have h7 := HLT.out; clear v0 v1 v2 g2; unfold hf at h9; omega) (by rw [HY0.out.2]; exact HAV.out.1) HAV.out.2.1 (by rw [HY2.out.2]; exact HAV.out.2.2)⟩
    have HLO : Aside0 (((dbl ns n i).length + 1) * 4 ≤ 140737488355328) := ⟨by simp [dbl]; clear v0 v1 v2 g2; omega⟩
    go_wp2_with (first | (go_at_call 70; refine (rWeigh_calls [1, 6, 1] [a, b, d] (some ⟨w32.heap.size, 0, none⟩) (some ⟨w32.heap.size + 1, 0, none⟩) 3 3 3 3 3 _ (Kd.C_below (C_new [a, b, d] (blk_new _ _) rfl (by simp)) (below_alloc (Below.refl _ _) _)) (C_new [1, 6, 1] (lit2 _ _ _) rfl (by decide)) (by decide) (by decide) (by decide) (by decide) HWS.out HSS.out HTT.out).mono ?_; rw [HSM.out]; rintro e w8 ⟨rfl, hb⟩; have B8 := Aside0.mk (below_step B32.out (below_step (below_alloc (below_alloc (Below.refl _ _) _) _) hb)); have RO := Aside0.mk (Kd.R_below RI.out B8.out); have BO := Aside0.mk (below_step BI.out B8.out); clear hb) | ((with_reducible refine gate_builtin (b := .append) (xs := #[.tmp 41, .tmp 48]) rfl ?_); at_builtin; refine Kd.R_append (nat .u32) (w0 := w) w.heap.size rfl (.tmp 41) (.tmp 48) 23 50 (.int .u32 0) 4 rfl Try.underlying23 info50 rfl (by decide) (by omega) _ (dbl ns n i) (smp expandS ns 1 i n) [.int .u32 ((smp expandS ns 1 i n : Nat) : Int)] (fun _ => True) (fun _ => False) rfl rfl rfl (fun _ hk => hk.elim) (fun _ _ => trivial) RO.out BO.out BO.out.size HLO.out ?_; intro v9 w9 hR1 hB1 hg1 hat1; rw [← dbl_succ] at hR1; have R9 := Aside0.mk hR1; have B9 := Aside0.mk hB1; clear hR1 hB1 hg1 hat1))
    go_roundw
    case measure => simp [intOf]; have := HLT.out; clear v0 v1 v2 g2; omega
    case rel => exact ⟨i + 1, HLT.out, by go_num, R9, B9⟩
   ·have tz : ((r2 : Int) == 0) = false := by rw [beq_eq_false_iff_ne]; omega
    have HWS : Aside0 (∀ j : Nat, j < 2 → 1 ≤ ([1, 1] : List Nat)[j]?.getD 0 ∧ ([1, 1] : List Nat)[j]?.getD 0 ≤ 16) := ⟨by intro j hj; clear v0 v1 v2 g2; rcases j with _ | _ | j <;> first | exact ⟨by decide, by decide⟩ | omega⟩
    have HSS : Aside0 (∀ j : Nat, ([b, d] : List Nat)[j]?.getD 0 < 4294967296) := ⟨by intro j; have ha := HS.out; (try rw [← HAV.out.1]); rw [← HAV.out.2.1, ← HAV.out.2.2]; rcases j with _ | _ | j <;> first | exact ha _ | exact (by decide : (0 : Nat) < 4294967296)⟩
    have HTT : Aside0 (wtot (prs [1, 1] [b, d] 2) = 2 ^ 1) := ⟨rfl⟩
    have HSM : Aside0 (wbits (prs [1, 1] [b, d] 2) = smp expandS ns 1 i n) := ⟨smp_odd HXV.out.1 (by rw [HR2.out]; exact hr0) HXV.out.2.2 (by have h9 := HF.out; have h8 := HXV.out.1; have h7 := HLT.out; clear v0 v1 v2 g2; unfold hf at h9; omega) HAV.out.2.1 (by rw [HY2.out.2]; exact HAV.out.2.2)⟩
    have HLO : Aside0 (((dbl ns n i).length + 1) * 4 ≤ 140737488355328) := ⟨by simp [dbl]; clear v0 v1 v2 g2; omega⟩
    go_wp2_with (first | (go_at_call 70; refine (rWeigh_calls [1, 1] [b, d] (some ⟨w32.heap.size, 0, none⟩) (some ⟨w32.heap.size + 1, 0, none⟩) 2 2 2 2 1 _ (Kd.C_below (C_new [b, d] (blk_new _ _) rfl (by simp)) (below_alloc (Below.refl _ _) _)) (C_new [1, 1] (lit2 _ _ _) rfl (by decide)) (by decide) (by decide) (by decide) (by decide) HWS.out HSS.out HTT.out).mono ?_; rw [HSM.out]; rintro e w8 ⟨rfl, hb⟩; have B8 := Aside0.mk (below_step B32.out (below_step (below_alloc (below_alloc (Below.refl _ _) _) _) hb)); have RO := Aside0.mk (Kd.R_below RI.out B8.out); have BO := Aside0.mk (below_step BI.out B8.out); clear hb) | ((with_reducible refine gate_builtin (b := .append) (xs := #[.tmp 50, .tmp 56]) rfl ?_); at_builtin; refine Kd.R_append (nat .u32) (w0 := w) w.heap.size rfl (.tmp 50) (.tmp 56) 23 50 (.int .u32 0) 4 rfl Try.underlying23 info50 rfl (by decide) (by omega) _ (dbl ns n i) (smp expandS ns 1 i n) [.int .u32 ((smp expandS ns 1 i n : Nat) : Int)] (fun _ => True) (fun _ => False) rfl rfl rfl (fun _ hk => hk.elim) (fun _ _ => trivial) RO.out BO.out BO.out.size HLO.out ?_; intro v9 w9 hR1 hB1 hg1 hat1; rw [← dbl_succ] at hR1; have R9 := Aside0.mk hR1; have B9 := Aside0.mk hB1; clear hR1 hB1 hg1 hat1))
    go_roundw
    case measure => simp [intOf]; have := HLT.out; clear v0 v1 v2 g2; omega
    case rel => exact ⟨i + 1, HLT.out, by go_num, R9, B9⟩
  ·obtain rfl : m = i := by omega
   have c1 : decide ((m : Int) < (m : Int)) = false := decide_eq_false (by omega)
   go_wp2
   go_ret
   exact ⟨_, rfl, RI.out, BI.out⟩
end Go.Proofs.Ytodlgdpkadkjjaa.A
end
section
set_option linter.unusedVariables false
set_option linter.unusedSimpArgs false
namespace Go.Proofs.Ytodlgdpkadkjjaa.A
open Go.RowKit Go.Shelf Go.Proofs.YtodlgdpkadkjjaaW.PrintWords Go.Proofs.YtodlgdpkadkjjaaW.PrintLast Go.Proofs.YtodlgdpkadkjjaaW.PrintMore Go.Proofs.Ytodlgdpkadkjjaa.PPyramidLevels
/-- a plane's row, and its column -/
def rowOf (p : List Nat) (W y : Nat) : List Nat := (List.range W).map (fun x => gt p (y * W + x))
def colOf (p : List Nat) (W H x : Nat) : List Nat := (List.range H).map (fun y => gt p (y * W + x))
theorem rowOf_length (p : List Nat) (W y : Nat) : (rowOf p W y).length = W := by simp [rowOf]
theorem colOf_length (p : List Nat) (W H x : Nat) : (colOf p W H x).length = H := by simp [colOf]
theorem map_lt {f : Nat → Nat} (n : Nat) (h : ∀ i, f i < 4294967296) : ∀ i, gt ((List.range n).map f) i < 4294967296 := by
 intro i
 unfold gt
 rw [List.getD_eq_getElem?_getD, List.getElem?_map]
 by_cases hi : i < n
 ·rw [List.getElem?_range hi]; exact h i
 ·rw [List.getElem?_eq_none (by simp; omega)]; exact (by decide : (0 : Nat) < 4294967296)
theorem At_f {W H x y : Nat} {p : List Nat} (hx : x < W) (hy : y < H) (hW : W ≤ 1024) (hH : H ≤ 1024) (hp : p.length = W * H) : halideref5_At.f (W : Int) (H : Int) (ints p) (x : Int) (y : Int) = some ((gt p (y * W + x) : Nat) : Int) := by
 have h1 : y * W ≤ 1024 * 1024 := Nat.mul_le_mul (by omega) hW
 have h2 : y * W + x < W * H := by
  have h3 : y * W + W ≤ H * W := by rw [← Nat.succ_mul]; exact Nat.mul_le_mul_right W hy
  rw [Nat.mul_comm W H]; omega
 have e1 : wrap64 ((y : Int) * (W : Int)) = ((y * W : Nat) : Int) := by rw [← Int.natCast_mul]; exact w64 (by omega) (by omega)
 have e2 : wrap64 (((y * W : Nat) : Int) + (x : Int)) = ((y * W + x : Nat) : Int) := by rw [← Int.natCast_add]; exact w64 (by omega) (by omega)
 unfold halideref5_At.f
 rw [e1, e2, if_pos (by omega), if_pos (by rw [ints_length, hp]; omega)]
 show some ((ints p).getD ((y * W + x : Nat) : Int).toNat 0) = _
 rw [Int.toNat_natCast, ints_getD]
theorem map_range_succ (F : Nat → Nat) (j : Nat) : ints ((List.range j).map F) ++ [((F j : Nat) : Int)] = ints ((List.range (j + 1)).map F) := by
 rw [List.range_succ, List.map_append, ints_append]; rfl
theorem line0_f {W H x : Nat} {p : List Nat} (hx : x < W) (hW : W ≤ 1024) (hH : H ≤ 1024) (hp : p.length = W * H) : ∀ d, d ≤ H → halideref14_line.l0 (d + 1) (x : Int) (ints ((List.range (H - d)).map (fun y => gt p (y * W + x)))) ((H - d : Nat) : Int) (W : Int) (H : Int) (ints p) = some (ints (colOf p W H x)) := by
 intro d
 induction d with
 | zero => intro _; unfold halideref14_line.l0; rw [if_neg (by omega)]; rfl
 | succ d ih =>
  intro hd
  obtain ⟨j, hj⟩ : ∃ j, H - (d + 1) = j := ⟨_, rfl⟩
  have hj2 : H - d = j + 1 := by omega
  rw [hj2] at ih
  have ih := ih (by omega)
  unfold halideref14_line.l0
  rw [hj, if_pos (by omega), At_f hx (by omega) hW hH hp]
  simp only [Option.bind_some]
  rw [if_pos (by rw [ints_length]; simp; omega), w64 (by omega) (by omega)]
  have e := map_range_succ (fun y => gt p (y * W + x)) j
  rw [e]
  exact ih
theorem line1_f {W H y : Nat} {p : List Nat} (hy : y < H) (hW : W ≤ 1024) (hH : H ≤ 1024) (hp : p.length = W * H) : ∀ d, d ≤ W → halideref14_line.l1 (d + 1) (y : Int) (ints ((List.range (W - d)).map (fun x => gt p (y * W + x)))) ((W - d : Nat) : Int) (W : Int) (H : Int) (ints p) = some (ints (rowOf p W y)) := by
 intro d
 induction d with
 | zero => intro _; unfold halideref14_line.l1; rw [if_neg (by omega)]; rfl
 | succ d ih =>
  intro hd
  obtain ⟨j, hj⟩ : ∃ j, W - (d + 1) = j := ⟨_, rfl⟩
  have hj2 : W - d = j + 1 := by omega
  rw [hj2] at ih
  have ih := ih (by omega)
  unfold halideref14_line.l1
  rw [hj, if_pos (by omega), At_f (by omega) hy hW hH hp]
  simp only [Option.bind_some]
  rw [if_pos (by rw [ints_length]; simp; omega), w64 (by omega) (by omega)]
  have e := map_range_succ (fun x => gt p (y * W + x)) j
  rw [e]
  exact ih
theorem rCol_calls {W H x n c : Nat} {p : List Nat} {A : Option Addr} {w : World} (h : PL w A n c p) (hx : x < W) (hW : W ≤ 1024) (hH : H ≤ 1024) (hp : p.length = W * H) :
    Calls Try.prog 47 #[.agg #[.int .i64 (W : Int), .int .i64 (H : Int), .slice A n c], .bool true, .int .i64 (x : Int)] w fun e w' => ∃ A' c', e = .returned (.slice A' H c') ∧ PL w' A' H c' (colOf p W H x) ∧ Below w.heap.size w w' := by
 have hl : (ints p).length = n := (ints_length p).trans h.2.2
 have hf := line0_f hx hW hH hp H (Nat.le_refl _)
 rw [Nat.sub_self] at hf
 have hk := halideref14_line.calls (H + 1) (W : Int) (H : Int) A c (ints p) true (x : Int) (ints (colOf p W H x)) w (by rw [hl]; exact C_ints h.1) (by rw [hl]; exact h.2.1) (by unfold halideref14_line.f; rw [if_pos rfl]; exact hf)
 rw [hl] at hk
 refine hk.mono ?_
 rintro e w' ⟨v, rfl, hR, hb⟩
 obtain ⟨A', n', c', rfl, hL⟩ := PL.of (R_nats hR)
 have e : n' = H := hL.2.2.symm.trans (colOf_length ..)
 subst e
 exact ⟨A', c', rfl, hL, hb⟩
theorem rRow_calls {W H y n c : Nat} {p : List Nat} {A : Option Addr} {w : World} (h : PL w A n c p) (hy : y < H) (hW : W ≤ 1024) (hH : H ≤ 1024) (hp : p.length = W * H) :
    Calls Try.prog 47 #[.agg #[.int .i64 (W : Int), .int .i64 (H : Int), .slice A n c], .bool false, .int .i64 (y : Int)] w fun e w' => ∃ A' c', e = .returned (.slice A' W c') ∧ PL w' A' W c' (rowOf p W y) ∧ Below w.heap.size w w' := by
 have hl : (ints p).length = n := (ints_length p).trans h.2.2
 have hf := line1_f hy hW hH hp W (Nat.le_refl _)
 rw [Nat.sub_self] at hf
 have hk := halideref14_line.calls (W + 1) (W : Int) (H : Int) A c (ints p) false (y : Int) (ints (rowOf p W y)) w (by rw [hl]; exact C_ints h.1) (by rw [hl]; exact h.2.1) (by unfold halideref14_line.f; rw [if_neg (by decide)]; exact hf)
 rw [hl] at hk
 refine hk.mono ?_
 rintro e w' ⟨v, rfl, hR, hb⟩
 obtain ⟨A', n', c', rfl, hL⟩ := PL.of (R_nats hR)
 have e : n' = W := hL.2.2.symm.trans (rowOf_length ..)
 subst e
 exact ⟨A', c', rfl, hL, hb⟩
theorem rBlank_calls {W H : Nat} (w : World) (h : W * H ≤ 65536) : Calls Try.prog 48 #[.int .i64 (W : Int), .int .i64 (H : Int)] w fun e w' => ∃ v, e = .returned (.agg #[.int .i64 (W : Int), .int .i64 (H : Int), v]) ∧ (nat .u32).R 50 w' w.heap.size (fun _ => True) v (List.replicate (W * H) 0) ∧ Below w.heap.size w w' := by
 have e1 : wrap64 ((W : Int) * (H : Int)) = ((W * H : Nat) : Int) := by rw [← Int.natCast_mul]; exact w64 (by omega) (by omega)
 refine (halideref5_Blank.calls (W : Int) (H : Int) (W : Int) (H : Int) (ints (List.replicate (W * H) 0)) w ?_).mono ?_
 ·unfold halideref5_Blank.f
  rw [e1, if_pos (by omega), Int.toNat_natCast, if_pos (by omega), ← ints_replicate]
  rfl
 ·rintro e w' ⟨v, rfl, hR, hb⟩
  exact ⟨v, rfl, R_nats hR, hb⟩
/-- a column, where it lies -/
theorem smp_col (S : Shape) (p : List Nat) (W H x i : Nat) (hH : 1 ≤ H) (hx : x < W) (hp : p.length = H * W) : smp S (colOf p W H x) 1 i H = smp S (p.drop x) W i H := by
 refine smp_ext S _ _ 1 W i H fun j hj => ?_
 have hc := cl_range (S.tf i + j) (H : Int) (by omega)
 have hz : (cl (S.tf i + (j : Nat)) H).toNat < H := by omega
 obtain ⟨z, hzz⟩ : ∃ z, (cl (S.tf i + (j : Nat)) H).toNat = z := ⟨_, rfl⟩
 rw [hzz] at hz ⊢
 rw [Nat.mul_one]
 unfold colOf gt
 rw [List.getElem?_map, List.getElem?_range hz, List.getElem?_drop, Option.map_some, Option.getD_some, List.getD_eq_getElem?_getD, Nat.add_comm]
theorem rowOf_eq (p : List Nat) (W y : Nat) (h : y * W + W ≤ p.length) : rowOf p W y = (p.drop (y * W)).take W := by
 apply List.ext_getElem?
 intro i
 unfold rowOf gt
 by_cases hi : i < W
 ·rw [List.getElem?_map, List.getElem?_range hi, List.getElem?_take, if_pos hi, List.getElem?_drop, Option.map_some, List.getD_eq_getElem?_getD, List.getElem?_eq_getElem (by omega)]
  rfl
 ·rw [List.getElem?_eq_none (by simp; omega), List.getElem?_eq_none (by simp; omega)]
theorem gridTo_row (F : Nat → Nat → Nat) (w y : Nat) : gridTo F w (y * w) ++ (List.range w).map (fun x => F x y) = gridTo F w ((y + 1) * w) := by
 have key : ∀ k, k ≤ w → gridTo F w (y * w) ++ (List.range k).map (fun x => F x y) = gridTo F w (y * w + k) := by
  intro k
  induction k with
  | zero => intro _; simp
  | succ k ih =>
   intro hk
   rw [List.range_succ, List.map_append, ← List.append_assoc, ih (by omega), ← Nat.add_assoc, gridTo_succ F hk]
   rfl
 rw [Nat.succ_mul]
 exact key w (Nat.le_refl _)
end Go.Proofs.Ytodlgdpkadkjjaa.A
end
section
set_option linter.unusedVariables false
set_option linter.unusedSimpArgs false
namespace Go.Proofs.Ytodlgdpkadkjjaa.A
open Go.RowKit Go.Shelf Go.Proofs.YtodlgdpkadkjjaaW.PrintWords Go.Proofs.YtodlgdpkadkjjaaW.PrintLast Go.Proofs.YtodlgdpkadkjjaaW.PrintMore Go.Proofs.Ytodlgdpkadkjjaa.PPyramidLevels
theorem rHalved {ns : List Nat} {A : Option Addr} {n c : Nat} {w : World} (hx : PL w A n c ns) (h1 : 1 ≤ n ∧ n ≤ 1024) (hs : ∀ i, gt ns i < 4294967296) :
    Calls Try.prog 46 #[.slice A n c] w fun e w' => ∃ A' c', e = .returned (.slice A' (hf n) c') ∧ (nat .u32).R 50 w' w.heap.size (fun _ => True) (.slice A' (hf n) c') (hlv ns n (hf n)) ∧ PL w' A' (hf n) c' (hlv ns n (hf n)) ∧ Below w.heap.size w w' := by
 refine (halved_calls ns A n c w hx h1 hs).mono ?_
 rintro e w' ⟨v, rfl, hR, hb⟩
 obtain ⟨A', n', c', rfl, hL⟩ := PL.of hR
 have e : n' = hf n := hL.2.2.symm.trans (by simp [hlv])
 subst e
 exact ⟨A', c', rfl, hR, hL, hb⟩
theorem rDoubled {ns : List Nat} {A : Option Addr} {n c m : Nat} {w : World} (hx : PL w A n c ns) (h1 : 1 ≤ n ∧ n ≤ 1024) (h2 : hf m = n) (h3 : m ≤ 1024) (hs : ∀ i, gt ns i < 4294967296) :
    Calls Try.prog 50 #[.slice A n c, .int .i64 (m : Int)] w fun e w' => ∃ A' c', e = .returned (.slice A' m c') ∧ (nat .u32).R 50 w' w.heap.size (fun _ => True) (.slice A' m c') (dbl ns n m) ∧ PL w' A' m c' (dbl ns n m) ∧ Below w.heap.size w w' := by
 refine (doubled_calls ns A n c m w hx h1 h2 h3 hs).mono ?_
 rintro e w' ⟨v, rfl, hR, hb⟩
 obtain ⟨A', n', c', rfl, hL⟩ := PL.of hR
 have e : n' = m := hL.2.2.symm.trans (by simp [dbl])
 subst e
 exact ⟨A', c', rfl, hR, hL, hb⟩
def rF (S : Shape) (W : Nat) (p : List Nat) : Nat → Nat → Nat := fun x y => smp S (rowOf p W y) 1 x W
def cG (S : Shape) (w H : Nat) (mid : List Nat) : Nat → Nat → Nat := fun x y => smp S (colOf mid w H x) 1 y H
theorem gridTo_congr {F G : Nat → Nat → Nat} {w h : Nat} (hf : ∀ x y, x < w → y < h → F x y = G x y) : gridTo F w (h * w) = gridTo G w (h * w) := by
 unfold gridTo
 refine List.map_congr_left fun i hi => ?_
 have hi := List.mem_range.mp hi
 rcases Nat.eq_zero_or_pos w with h0 | h0
 ·rw [h0, Nat.mul_zero] at hi; omega
 ·exact hf _ _ (Nat.mod_lt _ h0) ((Nat.div_lt_iff_lt_mul h0).mpr hi)
theorem rMid (S : Shape) (W H w : Nat) (p : List Nat) (hp : p.length = W * H) : gridTo (rF S W p) w (H * w) = midZ S W H w p := by
 unfold midZ
 refine gridTo_congr fun x y _ hy => ?_
 unfold rF
 rw [rowOf_eq p W y (by rw [hp, ← Nat.succ_mul, Nat.mul_comm W H]; exact Nat.mul_le_mul_right W hy)]
theorem rRes (S : Shape) (W H w h : Nat) (p : List Nat) (hH : 1 ≤ H) : gridTo (cG S w H (midZ S W H w p)) w (h * w) = resZ S W H w h p := by
 unfold resZ
 refine gridTo_congr fun x y hx _ => ?_
 exact smp_col S _ w H x y hH hx (midZ_length ..)
/-- the columns before x are laid, of the next the first y -/
def Done (G : Nat → Nat → Nat) (w h x y : Nat) (L : List Nat) : Prop := L.length = h * w ∧ ∀ a b, a < w → b < h → (a < x ∨ (a = x ∧ b < y)) → gt L (b * w + a) = G a b
theorem Done.zero (G : Nat → Nat → Nat) (w h : Nat) : Done G w h 0 0 (List.replicate (w * h) 0) := ⟨by rw [List.length_replicate, Nat.mul_comm], fun a b _ _ h => by omega⟩
theorem Done.next {G : Nat → Nat → Nat} {w h x : Nat} {L : List Nat} (hd : Done G w h x h L) : Done G w h (x + 1) 0 L := ⟨hd.1, fun a b h1 h2 h3 => hd.2 a b h1 h2 (by omega)⟩
theorem idx_inj {w a b x y : Nat} (ha : a < w) (hx : x < w) (h : y * w + x = b * w + a) : y = b ∧ x = a := by
 have e1 : (y * w + x) % w = (b * w + a) % w := by rw [h]
 have e2 : (y * w + x) / w = (b * w + a) / w := by rw [h]
 rw [Nat.add_comm, Nat.add_mul_mod_self_right, Nat.mod_eq_of_lt hx, Nat.add_comm (b * w), Nat.add_mul_mod_self_right, Nat.mod_eq_of_lt ha] at e1
 rw [Nat.add_comm, Nat.add_mul_div_right _ _ (by omega : 0 < w), Nat.div_eq_of_lt hx, Nat.add_comm (b * w), Nat.add_mul_div_right _ _ (by omega : 0 < w), Nat.div_eq_of_lt ha, Nat.zero_add, Nat.zero_add] at e2
 exact ⟨e2, e1⟩
theorem idx_lt2 {w h x y : Nat} (hx : x < w) (hy : y < h) : y * w + x < h * w := by
 have h3 : y * w + w ≤ h * w := by rw [← Nat.succ_mul]; exact Nat.mul_le_mul_right w hy
 omega
theorem Done.put {G : Nat → Nat → Nat} {w h x y : Nat} {L : List Nat} (hd : Done G w h x y L) (hx : x < w) (hy : y < h) : Done G w h x (y + 1) (L.set (y * w + x) (G x y)) := by
 refine ⟨by rw [List.length_set]; exact hd.1, fun a b h1 h2 h3 => ?_⟩
 rw [gt_set]
 by_cases e : y * w + x = b * w + a
 ·obtain ⟨rfl, rfl⟩ := idx_inj h1 hx e
  rw [if_pos ⟨rfl, by rw [hd.1]; exact idx_lt2 hx hy⟩]
 ·rw [if_neg (fun h => e h.1)]
  refine hd.2 a b h1 h2 ?_
  rcases h3 with h3 | ⟨rfl, h3⟩
  ·exact .inl h3
  ·refine .inr ⟨rfl, ?_⟩
   rcases Nat.lt_or_ge b y with h4 | h4
   ·exact h4
   ·exact absurd (by rw [show b = y by omega]) e
theorem Done.all {G : Nat → Nat → Nat} {w h : Nat} {L : List Nat} (hw : 0 < w) (hd : Done G w h w 0 L) : L = gridTo G w (h * w) := by
 refine gt_ext (by rw [hd.1, gridTo_length]) fun i hi => ?_
 rw [hd.1] at hi
 have h1 : i % w < w := Nat.mod_lt _ hw
 have h2 : i / w < h := (Nat.div_lt_iff_lt_mul hw).mpr hi
 have e : (i / w) * w + i % w = i := by rw [Nat.mul_comm]; exact Nat.div_add_mod i w
 have h3 := hd.2 (i % w) (i / w) h1 h2 (.inl h1)
 have h4 := gridTo_get G (n := h * w) h1 (by rw [e]; exact hi)
 rw [e] at h3 h4
 rw [h3]
 unfold gt
 rw [List.getD_eq_getElem?_getD, h4]
 rfl
theorem M3_below {W2 : World} {gF w h gf nf cf : Nat} {wr w' : World} {ys : List Nat} (hM : M3 W2 gF w h gf nf cf wr ys) (hb : Below wr.heap.size wr w') : M3 W2 gF w h gf nf cf w' ys := ⟨Kd.R_below hM.1 hb, blk_below hM.2.1 hb, below_step hM.2.2 hb⟩
theorem M3_lt {W2 : World} {gF w h gf nf cf : Nat} {wr : World} {ys : List Nat} (hM : M3 W2 gF w h gf nf cf wr ys) : gf < wr.heap.size := by
 obtain ⟨inner, ho⟩ := Kd.R_own hM.1
 exact own_lt ho gf rfl
theorem R_setn {w : World} {B g i : Nat} {u : Value} {ok : Nat → Prop} {v : Value} {xs : List Nat} (h : (nat .u32).R 50 w B ok v xs) (hg : g < B) : (nat .u32).R 50 (w.setCell ⟨g, i, none⟩ u) B ok v xs :=
 Kd.R_mono (Kd.R_move (Kd.R_bound h) (fun k hk => Below.heap_setCell w _ u k (by show k ≠ g; have := hk.2.1; omega))) (fun _ hk => hk.1)
end Go.Proofs.Ytodlgdpkadkjjaa.A
end
section
set_option linter.unusedVariables false
set_option linter.unusedSimpArgs false
namespace Go.Proofs.Ytodlgdpkadkjjaa.A
open Go.RowKit Go.Shelf Go.Proofs.YtodlgdpkadkjjaaW.PrintWords Go.Proofs.YtodlgdpkadkjjaaW.PrintLast Go.Proofs.YtodlgdpkadkjjaaW.PrintMore Go.Proofs.Ytodlgdpkadkjjaa.PPyramidLevels
set_option maxHeartbeats 8000000 in
set_option maxRecDepth 100000 in
theorem rReduce_ok (W H : Nat) (p : List Nat) (A : Option Addr) (n cap : Nat) (w : World) (hp : (Pl.mk W H p).ok) (hx : PL w A n cap p) :
    Calls Try.prog 14 #[.agg #[.int .i64 (W : Int), .int .i64 (H : Int), .slice A n cap]] w fun e w' => ∃ v, e = .returned (.tuple #[.agg #[.int .i64 ((hf W : Nat) : Int), .int .i64 ((hf H : Nat) : Int), v], .int .i64 0]) ∧ (nat .u32).R 50 w' w.heap.size (fun _ => True) v (redS W H p) ∧ Below w.heap.size w w' := by
 have hu25 := Try.underlying25
 have HE : Aside0 (checkE (W : Int) (H : Int) n = 0) := ⟨by rw [← hx.2.2]; exact hp.checkE⟩
 have HPX : Aside0 (∀ i, gt p i < 4294967296) := ⟨hp.2.2.2.2.2.2⟩
 obtain ⟨p1, p2, p3, p4, p5, p6, p7⟩ := hp
 have p1 : 0 < W := p1
 have p2 : 0 < H := p2
 have p3 : W ≤ 1024 := p3
 have p4 : H ≤ 1024 := p4
 have p5 : W * H ≤ 65536 := p5
 have p6 : p.length = W * H := p6
 have HNL : Aside0 (n < 9223372036854775808) := ⟨by have := hx.2.2; omega⟩
 have HPN := Aside0.mk p6
 have HX := Aside0.mk hx
 have HWB : Aside0 (1 ≤ W ∧ W ≤ 1024) := ⟨⟨p1, p3⟩⟩
 have HHB : Aside0 (1 ≤ H ∧ H ≤ 1024) := ⟨⟨p2, p4⟩⟩
 obtain ⟨wn, hwn⟩ : ∃ wn, hf W = wn := ⟨_, rfl⟩
 obtain ⟨hn, hhn⟩ : ∃ hn, hf H = hn := ⟨_, rfl⟩
 have HWN := Aside0.mk hwn
 have HHN := Aside0.mk hhn
 have hwb : 1 ≤ wn ∧ wn ≤ 512 := by rw [← hwn]; unfold hf; omega
 have hhb : 1 ≤ hn ∧ hn ≤ 512 := by rw [← hhn]; unfold hf; omega
 obtain ⟨kz, hK⟩ : ∃ kz, wn * hn = kz := ⟨_, rfl⟩
 have hKb : 0 < kz ∧ kz ≤ 65536 := by rw [← hK]; exact ⟨Nat.mul_pos hwb.1 hhb.1, Nat.le_trans (by rw [← hwn, ← hhn]; exact Nat.mul_le_mul (by unfold hf; omega) (by unfold hf; omega)) p5⟩
 have HKK := Aside0.mk hK
 have HKB := Aside0.mk hKb
 have hwH : H * wn ≤ 1048576 := Nat.le_trans (Nat.mul_le_mul p4 (show wn ≤ 1024 by omega)) (by decide)
 have HWH := Aside0.mk hwH
 have hRS : redS W H p = resZ reduceS W H wn hn p := by unfold redS; rw [hwn, hhn]
 rw [hwn, hhn, hRS]
 have HRS : Aside0 (gridTo (cG reduceS wn H (midZ reduceS W H wn p)) wn (hn * wn) = resZ reduceS W H wn hn p) := ⟨rRes reduceS W H wn hn p p2⟩
 have HMD : Aside0 (gridTo (rF reduceS W p) wn (H * wn) = midZ reduceS W H wn p) := ⟨rMid reduceS W H wn p p6⟩
 have HML : Aside0 (∀ i, gt (midZ reduceS W H wn p) i < 4294967296) := ⟨gt_lt_of (by decide) (midZ_lt reduceS reduce_good W H wn p (lt_of_gt p7) p1 (by omega))⟩
 clear p1 p2 p5 p6 p7 hx hwn hhn hK hRS hwH
 go_enter Try.func14, Try.ntmps14
 go_upto_region 4 with (first | ((with_reducible refine gate_dst (N := 1) rfl ?_); refine box_event ?hg (N := 1) ?hd (cs := #[.int .i64 (W : Int), .int .i64 (H : Int), .slice A n cap]) (t := 25) ?hr ?_; (case hd => rfl); (case hg => rfl); (case hr => first | (go_simp; done) | (go_simp; rfl)); intro gP hg_ w1 hm_ hb_; have P1 := Aside0.mk (hm_); have B1 := Aside0.mk (hb_); have GP := Aside0.mk (show w.heap.size ≤ gP by rw [hg_]; exact Nat.le_refl _); clear hm_ hb_ hg_) | ((with_reducible refine gate_dst (N := 2) rfl ?_); refine box_event ?hg (N := 2) ?hd (cs := #[.int .i64 0, .int .i64 0, .slice none 0 0]) (t := 25) ?hr ?_; (case hd => rfl); (case hg => rfl); (case hr => first | (go_simp; done) | (go_simp; rfl)); intro gR hg_ w2 hm_ hb_; have R2 := Aside0.mk (hm_); have P2 := Aside0.mk (blk_below P1.out hb_); have B2 := Aside0.mk (below_step B1.out hb_); have GR := Aside0.mk (show w.heap.size ≤ gR by rw [hg_]; exact below_size B1.out); have p0 := (blk_cell P2.out 0).trans rfl; have p1 := (blk_cell P2.out 1).trans rfl; have p2 := (blk_cell P2.out 2).trans rfl; clear hm_ hb_ hg_ P1 B1) | (go_at_call 44; refine (rCheck_calls (W : Int) (H : Int) A n cap _ HNL.out).mono ?_; rw [HE.out]; rintro e w3 ⟨rfl, hb⟩; have P3 := Aside0.mk (blk_below P2.out hb); have R3 := Aside0.mk (blk_below R2.out hb); have B3 := Aside0.mk (below_step B2.out hb); clear hb p0 p1 p2))
 have P4 := Aside0.mk (blk_drew P3.out)
 have R4 := Aside0.mk (blk_drew R3.out)
 have B4 := Aside0.mk (below_drew B3.out)
 have BR_ := Aside0.mk (Below.refl w3.drew.heap.size w3.drew)
 clear P3 R3 B3
 refine start_ (n := 8) (S := fun w' => w'.cell? ⟨gP, 0, none⟩ = some (.int .i64 (W : Int)) ∧ w'.cell? ⟨gP, 1, none⟩ = some (.int .i64 (H : Int)) ∧ w'.cell? ⟨gP, 2, none⟩ = some (.slice A n cap)) (ds := [7]) #[ff_,ff_,ff_,ff_,ff_,ff_,ff_,ff_] (by kernel_rfl) rfl rfl ⟨(blk_cell (blk_below P4.out BR_.out) 0).trans rfl, (blk_cell (blk_below P4.out BR_.out) 1).trans rfl, (blk_cell (blk_below P4.out BR_.out) 2).trans rfl⟩ (fun hHeld => ?_)
 generalize w3.drew = w4 at *
 refine pure_ (i := 0) (N := some 17) (v := ?_) (a' := ?_) #[tt_,ff_,ff_,ff_,ff_,ff_,ff_,ff_] rfl rfl (by kernel_rfl) (fun _ _ _ h => h) (Or.inl ⟨by rfl, ?_⟩) ?_ ?_
 rotate_left
 ·intro w'
  go_simp
  with_reducible rfl
 rotate_left
 ·simp only [Act.put, List.setIfInBounds_toArray, List.set_cons_zero, List.set_cons_succ, i64_w, i32_w]
  rfl
 refine pure_ (i := 3) (N := some 20) (v := ?_) (a' := ?_) #[tt_,ff_,ff_,tt_,ff_,ff_,ff_,ff_] rfl rfl (by kernel_rfl) (fun _ _ _ h => h) (Or.inl ⟨by rfl, ?_⟩) ?_ ?_
 rotate_left
 ·intro w'
  go_simp
  with_reducible rfl
 rotate_left
 ·simp only [Act.put, List.setIfInBounds_toArray, List.set_cons_zero, List.set_cons_succ, i64_w, i32_w]
  rfl
 refine take_ (i := 1) (N := some 18) (v := ?_) (a' := ?_) #[tt_,tt_,ff_,tt_,ff_,ff_,ff_,ff_] rfl rfl (by kernel_rfl) (fun _ _ _ h => h) (Or.inl ⟨by rfl, ?_⟩) hHeld ?_ ?_
 rotate_left
 ·rintro w' ⟨s0, s1, s2⟩
  go_simp
  with_reducible rfl
 rotate_left
 ·simp only [Act.put, List.setIfInBounds_toArray, List.set_cons_zero, List.set_cons_succ, i64_w, i32_w]
  rfl
 refine take_ (i := 4) (N := some 21) (v := ?_) (a' := ?_) #[tt_,tt_,ff_,tt_,tt_,ff_,ff_,ff_] rfl rfl (by kernel_rfl) (fun _ _ _ h => h) (Or.inl ⟨by rfl, ?_⟩) hHeld ?_ ?_
 rotate_left
 ·rintro w' ⟨s0, s1, s2⟩
  go_simp
  with_reducible rfl
 rotate_left
 ·simp only [Act.put, List.setIfInBounds_toArray, List.set_cons_zero, List.set_cons_succ, i64_w, i32_w]
  rfl
 refine join_ (σ := Nat) 1 #[tt_,tt_,tt_,tt_,tt_,tt_,tt_,ff_] (fun q_ => [(19, .int .i64 (wn : Int)), (22, .agg #[.int .i64 (wn : Int), .int .i64 (H : Int), .slice none 0 0]), (5, .pointer (some ⟨q_, 0, none⟩))]) (fun q_ w' => w'.heap[q_]? = some (.cells #[.int .i64 0, .int .i64 0, .slice none 0 0] 25 (0, 0)) ∧ w4.heap.size ≤ q_ ∧ Below w4.heap.size w4 w') ?_ ?_
 rotate_left
 ·intro hCont
  refine two_ (i := 2) (j := 6) (Ni := some 19) (Nj := some 5) #[tt_,tt_,tt_,tt_,tt_,ff_,ff_,ff_] #[tt_,tt_,ff_,tt_,tt_,ff_,tt_,ff_] rfl rfl rfl rfl (by kernel_rfl) (by decide) (by decide) (fun K hK => ?_) (fun K hK => ?_)
  ·skip
   refine goes_ Try.func45 (by kernel_rfl) rfl #[.int .i64 (W : Int)] (by rfl) rfl rfl (by (try simp only [List.map_toArray, List.map_cons, List.map_nil]); rfl) ?_
   refine (rHalf W _ HWB.out.2).mono ?_
   rw [HWN.out]
   rintro e w_2 ⟨rfl, hb⟩
   refine ⟨_, rfl, ?_⟩
   have BR_2 := Aside0.mk (below_step BR_.out hb)
   clear hb
   refine hK.out _ _ ⟨(blk_cell (blk_below P4.out BR_2.out) 0).trans rfl, (blk_cell (blk_below P4.out BR_2.out) 1).trans rfl, (blk_cell (blk_below P4.out BR_2.out) 2).trans rfl⟩ (fun hHeld => ?_)
   clear hK K
   refine norm_ (a' := ?_) ?_ ?_
   rotate_left
   ·show Act.put _ (some 19) _ = _
    simp only [Act.put, List.setIfInBounds_toArray, List.set_cons_zero, List.set_cons_succ, i64_w, i32_w]
    rfl
   refine pure_ (i := 5) (N := some 22) (v := ?_) (a' := ?_) #[tt_,tt_,tt_,tt_,tt_,tt_,ff_,ff_] rfl rfl (by kernel_rfl) (fun _ _ _ h => h) (Or.inl ⟨by rfl, ?_⟩) ?_ ?_
   rotate_left
   ·intro w'
    go_simp
    with_reducible rfl
   rotate_left
   ·simp only [Act.put, List.setIfInBounds_toArray, List.set_cons_zero, List.set_cons_succ, i64_w, i32_w]
    rfl
   refine one_ (i := 6) (N := some 5) #[tt_,tt_,tt_,tt_,tt_,tt_,tt_,ff_] rfl rfl (by kernel_rfl) (by decide) (fun K hK => ?_)
   refine alloc_step (cs := #[.int .i64 0, .int .i64 0, .slice none 0 0]) (t := 25) (by rfl) rfl (by first | (go_simp; done) | (go_simp; rfl)) ?_
   intro gT hg17
   have BR_2_6 := Aside0.mk (below_alloc BR_2.out (.cells #[.int .i64 0, .int .i64 0, .slice none 0 0] 25 (0, 0)))
   have Z_2_6 := Aside0.mk (blk_new w_2 (.cells #[.int .i64 0, .int .i64 0, .slice none 0 0] 25 (0, 0)))
   rw [← hg17] at Z_2_6
   have GEgT := Aside0.mk (show w4.heap.size ≤ gT by rw [hg17]; exact below_size BR_2.out)
   clear hg17
   generalize w_2.alloc (.cells #[.int .i64 0, .int .i64 0, .slice none 0 0] 25 (0, 0)) = w_2_6 at *
   refine hK.out _ _ ⟨(blk_cell (blk_below P4.out BR_2_6.out) 0).trans rfl, (blk_cell (blk_below P4.out BR_2_6.out) 1).trans rfl, (blk_cell (blk_below P4.out BR_2_6.out) 2).trans rfl⟩ (fun hHeld => ?_)
   clear hK K
   refine norm_ (a' := ?_) ?_ ?_
   rotate_left
   ·show Act.put _ (some 5) _ = _
    simp only [Act.put, List.setIfInBounds_toArray, List.set_cons_zero, List.set_cons_succ, i64_w, i32_w]
    rfl
   exact norm_ (by rfl) (hCont gT _ ⟨Z_2_6.out, GEgT.out, BR_2_6.out⟩)
  ·skip
   refine alloc_step (cs := #[.int .i64 0, .int .i64 0, .slice none 0 0]) (t := 25) (by rfl) rfl (by first | (go_simp; done) | (go_simp; rfl)) ?_
   intro gT hg17
   have BR_6 := Aside0.mk (below_alloc BR_.out (.cells #[.int .i64 0, .int .i64 0, .slice none 0 0] 25 (0, 0)))
   have Z_6 := Aside0.mk (blk_new w4 (.cells #[.int .i64 0, .int .i64 0, .slice none 0 0] 25 (0, 0)))
   rw [← hg17] at Z_6
   have GEgT := Aside0.mk (show w4.heap.size ≤ gT by rw [hg17]; exact below_size BR_.out)
   clear hg17
   generalize w4.alloc (.cells #[.int .i64 0, .int .i64 0, .slice none 0 0] 25 (0, 0)) = w_6 at *
   refine hK.out _ _ ⟨(blk_cell (blk_below P4.out BR_6.out) 0).trans rfl, (blk_cell (blk_below P4.out BR_6.out) 1).trans rfl, (blk_cell (blk_below P4.out BR_6.out) 2).trans rfl⟩ (fun hHeld => ?_)
   clear hK K
   refine norm_ (a' := ?_) ?_ ?_
   rotate_left
   ·show Act.put _ (some 5) _ = _
    simp only [Act.put, List.setIfInBounds_toArray, List.set_cons_zero, List.set_cons_succ, i64_w, i32_w]
    rfl
   refine one_ (i := 2) (N := some 19) #[tt_,tt_,tt_,tt_,tt_,ff_,tt_,ff_] rfl rfl (by kernel_rfl) (by decide) (fun K hK => ?_)
   refine goes_ Try.func45 (by kernel_rfl) rfl #[.int .i64 (W : Int)] (by rfl) rfl rfl (by (try simp only [List.map_toArray, List.map_cons, List.map_nil]); rfl) ?_
   refine (rHalf W _ HWB.out.2).mono ?_
   rw [HWN.out]
   rintro e w_6_2 ⟨rfl, hb⟩
   refine ⟨_, rfl, ?_⟩
   have BR_6_2 := Aside0.mk (below_step BR_6.out hb)
   have Z_6_2 := Aside0.mk (blk_below Z_6.out hb)
   clear hb
   refine hK.out _ _ ⟨(blk_cell (blk_below P4.out BR_6_2.out) 0).trans rfl, (blk_cell (blk_below P4.out BR_6_2.out) 1).trans rfl, (blk_cell (blk_below P4.out BR_6_2.out) 2).trans rfl⟩ (fun hHeld => ?_)
   clear hK K
   refine norm_ (a' := ?_) ?_ ?_
   rotate_left
   ·show Act.put _ (some 19) _ = _
    simp only [Act.put, List.setIfInBounds_toArray, List.set_cons_zero, List.set_cons_succ, i64_w, i32_w]
    rfl
   refine pure_ (i := 5) (N := some 22) (v := ?_) (a' := ?_) #[tt_,tt_,tt_,tt_,tt_,tt_,tt_,ff_] rfl rfl (by kernel_rfl) (fun _ _ _ h => h) (Or.inl ⟨by rfl, ?_⟩) ?_ ?_
   rotate_left
   ·intro w'
    go_simp
    with_reducible rfl
   rotate_left
   ·simp only [Act.put, List.setIfInBounds_toArray, List.set_cons_zero, List.set_cons_succ, i64_w, i32_w]
    rfl
   exact norm_ (by rfl) (hCont gT _ ⟨Z_6_2.out, GEgT.out, BR_6_2.out⟩)
 rintro gT w5 ⟨hZ, hge, hB⟩
 have Z5 := Aside0.mk (hZ)
 have GT := Aside0.mk (hge)
 have BR5 := Aside0.mk (hB)
 have hHeld : w5.cell? ⟨gP, 0, none⟩ = some (.int .i64 (W : Int)) ∧ w5.cell? ⟨gP, 1, none⟩ = some (.int .i64 (H : Int)) ∧ w5.cell? ⟨gP, 2, none⟩ = some (.slice A n cap) := ⟨(blk_cell (blk_below P4.out BR5.out) 0).trans rfl, (blk_cell (blk_below P4.out BR5.out) 1).trans rfl, (blk_cell (blk_below P4.out BR5.out) 2).trans rfl⟩
 clear hZ hge hB
 refine norm_ (a' := ?_) ?_ ?_
 rotate_left
 ·simp only [YtodlgdpkadkjjaaW.PrintLast.putAll, Act.put, List.setIfInBounds_toArray, List.set_cons_zero, List.set_cons_succ]
  rfl
 refine last_ (i := 7) (N := none) #[tt_,tt_,tt_,tt_,tt_,tt_,tt_,tt_] rfl rfl (by kernel_rfl) (by decide) (fun K hK => ?_)
 refine storeP_step (by rfl) rfl rfl gT (wn : Int) (H : Int) none 0 0 _ _ _ rfl rfl Z5.out ?_
 intro w6 hm_ hst_ hbl_
 have T6 := Aside0.mk (hm_)
 have B6 := Aside0.mk (BR5.out.trans (hbl_ _ GT.out))
 clear hm_ hst_ hbl_
 refine hK.out _ _ ?_
 clear hK K
 refine done_ (by kernel_rfl) ?_
 have X4 := Aside0.mk (HX.out.below B4.out)
 clear Z5 BR5 BR_ hHeld
 have HI0 : Aside0 (M2 w4 gT wn H w6 (.slice none 0 0) []) := ⟨⟨Kd.R_nil _ _ _ _ _, T6.out, B6.out⟩⟩
 obtain ⟨v0, hv0⟩ : ∃ v0, v0 = Value.slice none 0 0 := ⟨_, rfl⟩
 obtain ⟨xs0, hxs0⟩ : ∃ xs0 : List Nat, xs0 = [] := ⟨_, rfl⟩
 rw [← hv0, ← hxs0] at HI0
 have HX0 : Aside0 (xs0 = gridTo (rF reduceS W p) wn (0 * wn)) := ⟨by rw [hxs0, Nat.zero_mul]; rfl⟩
 clear hv0 hxs0 T6 B6
 go_wp2
 go_loopw [6] (fun yv wr => ∃ (y : Nat) (v : Value) (xs : List Nat), y ≤ H ∧ yv = .int .i64 (y : Int) ∧ Aside0 (xs = gridTo (rF reduceS W p) wn (y * wn)) ∧ Aside0 (M2 w4 gT wn H wr v xs)) (fun yv _ => H - (intOf yv).toNat)
 case atStart => exact ⟨0, v0, xs0, Nat.zero_le _, rfl, HX0, HI0⟩
 case round =>
  clear HI0 HX0
  obtain ⟨y, v, xs, hy, rfl, HXY, HM⟩ := hrel
  have p1 := (blk_cell (blk_below P4.out HM.out.2.2) 1).trans rfl
  by_cases hlt : y < H
  ·have c1 : decide ((y : Int) < (H : Int)) = true := decide_eq_true (by omega)
   have HLT := Aside0.mk hlt
   obtain ⟨ro, hro⟩ : ∃ ro, hlv (rowOf p W y) W wn = ro := ⟨_, rfl⟩
   have HRO := Aside0.mk hro
   have HRL : Aside0 (∀ i, gt (rowOf p W y) i < 4294967296) := ⟨map_lt W (fun i => HPX.out _)⟩
   obtain ⟨xs', hxs'⟩ : ∃ xs', xs ++ ro = xs' := ⟨_, rfl⟩
   have HXA := Aside0.mk hxs'
   have HXS : Aside0 (xs' = gridTo (rF reduceS W p) wn ((y + 1) * wn)) := ⟨by rw [← hxs', HXY.out, ← hro]; exact gridTo_row (rF reduceS W p) wn y⟩
   have HXN : Aside0 ((xs.length + wn) * 4 ≤ 140737488355328) := ⟨by
    rw [HXY.out, gridTo_length]
    have h1 : y * wn + wn ≤ H * wn := by rw [← Nat.succ_mul]; exact Nat.mul_le_mul_right wn hlt
    have h9 := HWH.out
    omega⟩
   obtain ⟨A3, c3, hv, hc3, hC3⟩ := Kd.R_reads HM.out.1
   obtain ⟨n3, hn3⟩ : ∃ n3, xs.length = n3 := ⟨_, rfl⟩
   rw [hn3] at hv
   subst hv
   have V30 := Aside0.mk (Kd.R_drew HM.out.1)
   have T30 := Aside0.mk (blk_drew HM.out.2.1)
   have BT30 := Aside0.mk (below_drew HM.out.2.2)
   clear hro hxs' hc3 hC3 hn3 HM
   go_upto_region 8 with (fail)
   refine start_ (n := 9) (S := fun w' => w'.cell? ⟨gT, 2, none⟩ = some (.slice A3 n3 c3) ∧ w'.cell? ⟨gP, 0, none⟩ = some (.int .i64 (W : Int)) ∧ w'.cell? ⟨gP, 1, none⟩ = some (.int .i64 (H : Int)) ∧ w'.cell? ⟨gP, 2, none⟩ = some (.slice A n cap)) (ds := [6, 8]) #[ff_,ff_,ff_,ff_,ff_,ff_,ff_,ff_,ff_] (by kernel_rfl) rfl rfl ⟨(blk_cell T30.out 2).trans rfl, (blk_cell (blk_below P4.out BT30.out) 0).trans rfl, (blk_cell (blk_below P4.out BT30.out) 1).trans rfl, (blk_cell (blk_below P4.out BT30.out) 2).trans rfl⟩ (fun hHeld => ?_)
   generalize wr.drew = w30 at *
   refine pure_ (i := 0) (N := some 29) (v := ?_) (a' := ?_) #[tt_,ff_,ff_,ff_,ff_,ff_,ff_,ff_,ff_] rfl rfl (by kernel_rfl) (fun _ _ _ h => h) (Or.inl ⟨by rfl, ?_⟩) ?_ ?_
   rotate_left
   ·intro w'
    go_simp
    with_reducible rfl
   rotate_left
   ·simp only [Act.put, List.setIfInBounds_toArray, List.set_cons_zero, List.set_cons_succ, i64_w, i32_w]
    rfl
   refine pure_ (i := 3) (N := some 32) (v := ?_) (a' := ?_) #[tt_,ff_,ff_,tt_,ff_,ff_,ff_,ff_,ff_] rfl rfl (by kernel_rfl) (fun _ _ _ h => h) (Or.inl ⟨by rfl, ?_⟩) ?_ ?_
   rotate_left
   ·intro w'
    go_simp
    with_reducible rfl
   rotate_left
   ·simp only [Act.put, List.setIfInBounds_toArray, List.set_cons_zero, List.set_cons_succ, i64_w, i32_w]
    rfl
   refine take_ (i := 1) (N := some 30) (v := ?_) (a' := ?_) #[tt_,tt_,ff_,tt_,ff_,ff_,ff_,ff_,ff_] rfl rfl (by kernel_rfl) (fun _ _ _ h => h) (Or.inl ⟨by rfl, ?_⟩) hHeld ?_ ?_
   rotate_left
   ·rintro w' ⟨s0, s1, s2, s3⟩
    go_simp
    with_reducible rfl
   rotate_left
   ·simp only [Act.put, List.setIfInBounds_toArray, List.set_cons_zero, List.set_cons_succ, i64_w, i32_w]
    rfl
   refine take_ (i := 2) (N := some 31) (v := ?_) (a' := ?_) #[tt_,tt_,tt_,tt_,ff_,ff_,ff_,ff_,ff_] rfl rfl (by kernel_rfl) (fun _ _ _ h => h) (Or.inl ⟨by rfl, ?_⟩) hHeld ?_ ?_
   rotate_left
   ·rintro w' ⟨s0, s1, s2, s3⟩
    go_simp
    with_reducible rfl
   rotate_left
   ·simp only [Act.put, List.setIfInBounds_toArray, List.set_cons_zero, List.set_cons_succ, i64_w, i32_w]
    rfl
   refine one_ (i := 4) (N := some 33) #[tt_,tt_,tt_,tt_,tt_,ff_,ff_,ff_,ff_] rfl rfl (by kernel_rfl) (by decide) (fun K hK => ?_)
   refine goes_ Try.func47 (by kernel_rfl) rfl #[.agg #[.int .i64 (W : Int), .int .i64 (H : Int), .slice A n cap], .bool false, .int .i64 (y : Int)] (by rfl) rfl rfl (by (try simp only [List.map_toArray, List.map_cons, List.map_nil]); rfl) ?_
   refine (rRow_calls (X4.out.below BT30.out) HLT.out HWB.out.2 HHB.out.2 HPN.out).mono ?_
   rintro e w31 ⟨A31, c31, rfl, hL, hb⟩
   refine ⟨_, rfl, ?_⟩
   have T31 := Aside0.mk (blk_below T30.out hb)
   have BT31 := Aside0.mk (below_step BT30.out hb)
   have V31 := Aside0.mk (Kd.R_below V30.out hb)
   have L31 := Aside0.mk (hL)
   clear hb hL
   refine hK.out _ _ ⟨(blk_cell T31.out 2).trans rfl, (blk_cell (blk_below P4.out BT31.out) 0).trans rfl, (blk_cell (blk_below P4.out BT31.out) 1).trans rfl, (blk_cell (blk_below P4.out BT31.out) 2).trans rfl⟩ (fun hHeld => ?_)
   clear hK K
   refine norm_ (a' := ?_) ?_ ?_
   rotate_left
   ·show Act.put _ (some 33) _ = _
    simp only [Act.put, List.setIfInBounds_toArray, List.set_cons_zero, List.set_cons_succ, i64_w, i32_w]
    rfl
   refine one_ (i := 5) (N := some 34) #[tt_,tt_,tt_,tt_,tt_,tt_,ff_,ff_,ff_] rfl rfl (by kernel_rfl) (by decide) (fun K hK => ?_)
   refine goes_ Try.func46 (by kernel_rfl) rfl #[.slice A31 W c31] (by rfl) rfl rfl (by (try simp only [List.map_toArray, List.map_cons, List.map_nil]); rfl) ?_
   refine (rHalved L31.out HWB.out HRL.out).mono ?_
   rw [HWN.out, HRO.out]
   rintro e w32 ⟨A32, c32, rfl, hR, hL, hb⟩
   refine ⟨_, rfl, ?_⟩
   have T32 := Aside0.mk (blk_below T31.out hb)
   have BT32 := Aside0.mk (below_step BT31.out hb)
   have V32 := Aside0.mk (Kd.R_below V31.out hb)
   have L32 := Aside0.mk (hL)
   clear hb hL hR
   refine hK.out _ _ ⟨(blk_cell T32.out 2).trans rfl, (blk_cell (blk_below P4.out BT32.out) 0).trans rfl, (blk_cell (blk_below P4.out BT32.out) 1).trans rfl, (blk_cell (blk_below P4.out BT32.out) 2).trans rfl⟩ (fun hHeld => ?_)
   clear hK K
   refine norm_ (a' := ?_) ?_ ?_
   rotate_left
   ·show Act.put _ (some 34) _ = _
    simp only [Act.put, List.setIfInBounds_toArray, List.set_cons_zero, List.set_cons_succ, i64_w, i32_w]
    rfl
   refine last_ (i := 6) (N := some 35) #[tt_,tt_,tt_,tt_,tt_,tt_,tt_,ff_,ff_] rfl rfl (by kernel_rfl) (by decide) (fun K hK => ?_)
   refine Kd.R_append_rows_step (nat .u32) (Rr := (nat .u32).K w32) (w0 := w4) w4.heap.size (by rfl) (.tmp 30) (.tmp 34) 23 50 (.int .u32 0) 4 rfl Try.underlying23 info50 rfl (by decide) (by omega) (.slice A3 n3 c3) xs ro A32 wn c32 (fun _ => True) (fun _ => False) rfl rfl V32.out ?aR (fun x cs h => h) (fun _ h => h.elim) (fun _ _ => trivial) BT32.out BT32.out.size HXN.out ?_
   (case aR => exact L32.out.1)
   intro v7 w7 hR1 hB1 hg1 hat1
   rw [HXA.out] at hR1
   obtain ⟨A7, c7, hv7⟩ := Kd.R_slice hR1
   obtain ⟨n7, hn7⟩ : ∃ n7, xs'.length = n7 := ⟨_, rfl⟩
   rw [hn7] at hv7
   subst hv7
   have V7 := Aside0.mk (hR1)
   have BT7 := Aside0.mk (hB1)
   have T7 := Aside0.mk (blk_grown T32.out hg1 (Kd.R_ne V32.out T32.out (by decide)))
   clear hR1 hB1 hg1 hat1 hn7
   have q2 := (blk_cell T7.out 2).trans rfl
   have fr2 := blk_frozen T7.out 2
   refine hK.out _ _ ?_
   clear hK K
   refine norm_ (a' := ?_) ?_ ?_
   rotate_left
   ·show Act.put _ (some 35) _ = _
    simp only [Act.put, List.setIfInBounds_toArray, List.set_cons_zero, List.set_cons_succ, i64_w, i32_w]
    rfl
   refine pure_ (i := 7) (N := some 36) (v := ?_) (a' := ?_) #[tt_,tt_,tt_,tt_,tt_,tt_,tt_,tt_,ff_] rfl rfl (by kernel_rfl) (fun _ _ _ h => h) (Or.inl ⟨by rfl, ?_⟩) ?_ ?_
   rotate_left
   ·intro w'
    go_simp
    with_reducible rfl
   rotate_left
   ·simp only [Act.put, List.setIfInBounds_toArray, List.set_cons_zero, List.set_cons_succ, i64_w, i32_w]
    rfl
   refine last_ (i := 8) (N := none) #[tt_,tt_,tt_,tt_,tt_,tt_,tt_,tt_,tt_] rfl rfl (by kernel_rfl) (by decide) (fun K hK => ?_)
   refine skip_ (w1 := ?_) (by rfl) rfl ?_ ?_
   rotate_left
   ·go_simp
    rfl
   refine hK.out _ _ ?_
   clear hK K
   refine done_ (by kernel_rfl) ?_
   clear hHeld
   obtain ⟨w10, hw10⟩ : ∃ w10, w10 = w7.setCell ⟨gT, 2, none⟩ (.slice A7 n7 c7) := ⟨_, rfl⟩
   rw [← hw10]
   have P10 : w10.heap[gT]? = some (.cells #[.int .i64 (wn : Int), .int .i64 (H : Int), .slice A7 n7 c7] 25 (0, 0)) := by rw [hw10]; exact (blk_set T7.out 2 _).trans rfl
   have st10 : ∀ k, k ≠ gT → w10.heap[k]? = w7.heap[k]? := by rw [hw10]; exact fun k hk => Below.heap_setCell _ _ _ k hk
   have R10 : (nat .u32).R 50 w10 w4.heap.size (fun _ => True) (.slice A7 n7 c7) xs' := Kd.R_mono (Kd.R_move (Kd.R_types V7.out T7.out (by decide)) (fun k hk => st10 k hk.2)) (fun _ _ => trivial)
   have B10 : Below w4.heap.size w4 w10 := by rw [hw10]; exact BT7.out.setCell (p := ⟨gT, 2, none⟩) GT.out _
   have HJ : Aside0 (M2 w4 gT wn H w10 (.slice A7 n7 c7) xs') := ⟨R10, P10, B10⟩
   clear hw10 P10 st10 R10 B10
   go_wp2
   go_roundw
   case measure => simp [intOf]; omega
   case rel => exact ⟨y + 1, _, xs', by omega, by go_num, HXS, HJ⟩
  ·obtain rfl : H = y := by omega
   have c1 : decide ((H : Int) < (H : Int)) = false := decide_eq_false (by omega)
   obtain ⟨mid, hmid⟩ : ∃ mid, midZ reduceS W H wn p = mid := ⟨_, rfl⟩
   have hxm : xs = mid := by rw [HXY.out, HMD.out, hmid]
   have hml : mid.length = wn * H := by rw [← hmid, midZ_length, Nat.mul_comm]
   obtain ⟨A5, n5, c5, hv, hL5⟩ := PL.of HM.out.1
   subst hv
   subst hxm
   rw [hmid] at HRS HML
   have P20 := Aside0.mk (blk_drew (blk_below P4.out HM.out.2.2))
   have R20 := Aside0.mk (blk_drew (blk_below R4.out HM.out.2.2))
   have T20 := Aside0.mk (blk_drew HM.out.2.1)
   have B20 := Aside0.mk (below_drew (below_step B4.out HM.out.2.2))
   have LM := Aside0.mk (hL5.below (below_drew (Below.refl _ wr)))
   have HMN := Aside0.mk hml
   have BR_ := Aside0.mk (Below.refl wr.drew.heap.size wr.drew)
   have HWB2 := Aside0.mk hwb
   clear hmid hml hL5 HM HXY
   go_upto_region 9 with (fail)
   clear p1
   refine start_ (n := 8) (S := fun w' => w'.cell? ⟨gT, 0, none⟩ = some (.int .i64 (wn : Int)) ∧ w'.cell? ⟨gP, 1, none⟩ = some (.int .i64 (H : Int))) (ds := [7]) #[ff_,ff_,ff_,ff_,ff_,ff_,ff_,ff_] (by kernel_rfl) rfl rfl ⟨(blk_cell (blk_below T20.out BR_.out) 0).trans rfl, (blk_cell (blk_below P20.out BR_.out) 1).trans rfl⟩ (fun hHeld => ?_)
   generalize wr.drew = w20 at *
   refine pure_ (i := 0) (N := some 37) (v := ?_) (a' := ?_) #[tt_,ff_,ff_,ff_,ff_,ff_,ff_,ff_] rfl rfl (by kernel_rfl) (fun _ _ _ h => h) (Or.inl ⟨by rfl, ?_⟩) ?_ ?_
   rotate_left
   ·intro w'
    go_simp
    with_reducible rfl
   rotate_left
   ·simp only [Act.put, List.setIfInBounds_toArray, List.set_cons_zero, List.set_cons_succ, i64_w, i32_w]
    rfl
   refine pure_ (i := 2) (N := some 39) (v := ?_) (a' := ?_) #[tt_,ff_,tt_,ff_,ff_,ff_,ff_,ff_] rfl rfl (by kernel_rfl) (fun _ _ _ h => h) (Or.inl ⟨by rfl, ?_⟩) ?_ ?_
   rotate_left
   ·intro w'
    go_simp
    with_reducible rfl
   rotate_left
   ·simp only [Act.put, List.setIfInBounds_toArray, List.set_cons_zero, List.set_cons_succ, i64_w, i32_w]
    rfl
   refine take_ (i := 1) (N := some 38) (v := ?_) (a' := ?_) #[tt_,tt_,tt_,ff_,ff_,ff_,ff_,ff_] rfl rfl (by kernel_rfl) (fun _ _ _ h => h) (Or.inl ⟨by rfl, ?_⟩) hHeld ?_ ?_
   rotate_left
   ·rintro w' ⟨s0, s1⟩
    go_simp
    with_reducible rfl
   rotate_left
   ·simp only [Act.put, List.setIfInBounds_toArray, List.set_cons_zero, List.set_cons_succ, i64_w, i32_w]
    rfl
   refine take_ (i := 3) (N := some 40) (v := ?_) (a' := ?_) #[tt_,tt_,tt_,tt_,ff_,ff_,ff_,ff_] rfl rfl (by kernel_rfl) (fun _ _ _ h => h) (Or.inl ⟨by rfl, ?_⟩) hHeld ?_ ?_
   rotate_left
   ·rintro w' ⟨s0, s1⟩
    go_simp
    with_reducible rfl
   rotate_left
   ·simp only [Act.put, List.setIfInBounds_toArray, List.set_cons_zero, List.set_cons_succ, i64_w, i32_w]
    rfl
   refine join_ (σ := Nat × Nat × Nat) 1 #[tt_,tt_,tt_,tt_,tt_,tt_,tt_,ff_] (fun q_ => [(41, .int .i64 (hn : Int)), (42, .agg #[.int .i64 (wn : Int), .int .i64 (hn : Int), .slice (some ⟨q_.1, 0, none⟩) kz q_.2.1]), (7, .pointer (some ⟨q_.2.2, 0, none⟩))]) (fun q_ w' => (nat .u32).R 50 w' w20.heap.size (fun _ => True) (.slice (some ⟨q_.1, 0, none⟩) kz q_.2.1) (List.replicate (wn * hn) 0) ∧ w20.heap.size ≤ q_.1 ∧ w'.heap[q_.2.2]? = some (.cells #[.int .i64 0, .int .i64 0, .slice none 0 0] 25 (0, 0)) ∧ w20.heap.size ≤ q_.2.2 ∧ Below w20.heap.size w20 w') ?_ ?_
   rotate_left
   ·intro hCont
    refine two_ (i := 4) (j := 6) (Ni := some 41) (Nj := some 7) #[tt_,tt_,tt_,tt_,tt_,ff_,ff_,ff_] #[tt_,tt_,tt_,tt_,ff_,ff_,tt_,ff_] rfl rfl rfl rfl (by kernel_rfl) (by decide) (by decide) (fun K hK => ?_) (fun K hK => ?_)
    ·skip
     refine goes_ Try.func45 (by kernel_rfl) rfl #[.int .i64 (H : Int)] (by rfl) rfl rfl (by (try simp only [List.map_toArray, List.map_cons, List.map_nil]); rfl) ?_
     refine (rHalf H _ HHB.out.2).mono ?_
     rw [HHN.out]
     rintro e w_4 ⟨rfl, hb⟩
     refine ⟨_, rfl, ?_⟩
     have BR_4 := Aside0.mk (below_step BR_.out hb)
     clear hb
     refine hK.out _ _ ⟨(blk_cell (blk_below T20.out BR_4.out) 0).trans rfl, (blk_cell (blk_below P20.out BR_4.out) 1).trans rfl⟩ (fun hHeld => ?_)
     clear hK K
     refine norm_ (a' := ?_) ?_ ?_
     rotate_left
     ·show Act.put _ (some 41) _ = _
      simp only [Act.put, List.setIfInBounds_toArray, List.set_cons_zero, List.set_cons_succ, i64_w, i32_w]
      rfl
     refine two_ (i := 5) (j := 6) (Ni := some 42) (Nj := some 7) #[tt_,tt_,tt_,tt_,tt_,tt_,ff_,ff_] #[tt_,tt_,tt_,tt_,tt_,ff_,tt_,ff_] rfl rfl rfl rfl (by kernel_rfl) (by decide) (by decide) (fun K hK => ?_) (fun K hK => ?_)
     ·skip
      refine goes_ Try.func48 (by kernel_rfl) rfl #[.int .i64 (wn : Int), .int .i64 (hn : Int)] (by rfl) rfl rfl (by (try simp only [List.map_toArray, List.map_cons, List.map_nil]); rfl) ?_
      refine (rBlank_calls _ (by rw [HKK.out]; exact HKB.out.2)).mono ?_
      rintro e w_4_5 ⟨v9, rfl, hR, hb⟩
      refine ⟨_, rfl, ?_⟩
      obtain ⟨go, co, hv9, hgo, hlt9, hty9⟩ := Kd.R_form hR (by rw [List.length_replicate, HKK.out]; exact HKB.out.1)
      rw [List.length_replicate, HKK.out] at hv9
      subst hv9
      have BR_4_5 := Aside0.mk (below_step BR_4.out hb)
      have V_4_5 := Aside0.mk (Kd.R_lower hR (below_size BR_4.out))
      have GO := Aside0.mk (Nat.le_trans (below_size BR_4.out) hgo)
      clear hR hgo hlt9 hty9 hb
      refine hK.out _ _ ⟨(blk_cell (blk_below T20.out BR_4_5.out) 0).trans rfl, (blk_cell (blk_below P20.out BR_4_5.out) 1).trans rfl⟩ (fun hHeld => ?_)
      clear hK K
      refine norm_ (a' := ?_) ?_ ?_
      rotate_left
      ·show Act.put _ (some 42) _ = _
       simp only [Act.put, List.setIfInBounds_toArray, List.set_cons_zero, List.set_cons_succ, i64_w, i32_w]
       rfl
      refine one_ (i := 6) (N := some 7) #[tt_,tt_,tt_,tt_,tt_,tt_,tt_,ff_] rfl rfl (by kernel_rfl) (by decide) (fun K hK => ?_)
      refine alloc_step (cs := #[.int .i64 0, .int .i64 0, .slice none 0 0]) (t := 25) (by rfl) rfl (by first | (go_simp; done) | (go_simp; rfl)) ?_
      intro gO hg17
      have BR_4_5_6 := Aside0.mk (below_alloc BR_4_5.out (.cells #[.int .i64 0, .int .i64 0, .slice none 0 0] 25 (0, 0)))
      have Z_4_5_6 := Aside0.mk (blk_new w_4_5 (.cells #[.int .i64 0, .int .i64 0, .slice none 0 0] 25 (0, 0)))
      rw [← hg17] at Z_4_5_6
      have GEgO := Aside0.mk (show w20.heap.size ≤ gO by rw [hg17]; exact below_size BR_4_5.out)
      have V_4_5_6 := Aside0.mk (Kd.R_below V_4_5.out (below_alloc (Below.refl _ w_4_5) (.cells #[.int .i64 0, .int .i64 0, .slice none 0 0] 25 (0, 0))))
      clear hg17
      generalize w_4_5.alloc (.cells #[.int .i64 0, .int .i64 0, .slice none 0 0] 25 (0, 0)) = w_4_5_6 at *
      refine hK.out _ _ ⟨(blk_cell (blk_below T20.out BR_4_5_6.out) 0).trans rfl, (blk_cell (blk_below P20.out BR_4_5_6.out) 1).trans rfl⟩ (fun hHeld => ?_)
      clear hK K
      refine norm_ (a' := ?_) ?_ ?_
      rotate_left
      ·show Act.put _ (some 7) _ = _
       simp only [Act.put, List.setIfInBounds_toArray, List.set_cons_zero, List.set_cons_succ, i64_w, i32_w]
       rfl
      exact norm_ (by rfl) (hCont (go, co, gO) _ ⟨V_4_5_6.out, GO.out, Z_4_5_6.out, GEgO.out, BR_4_5_6.out⟩)
     ·skip
      refine alloc_step (cs := #[.int .i64 0, .int .i64 0, .slice none 0 0]) (t := 25) (by rfl) rfl (by first | (go_simp; done) | (go_simp; rfl)) ?_
      intro gO hg17
      have BR_4_6 := Aside0.mk (below_alloc BR_4.out (.cells #[.int .i64 0, .int .i64 0, .slice none 0 0] 25 (0, 0)))
      have Z_4_6 := Aside0.mk (blk_new w_4 (.cells #[.int .i64 0, .int .i64 0, .slice none 0 0] 25 (0, 0)))
      rw [← hg17] at Z_4_6
      have GEgO := Aside0.mk (show w20.heap.size ≤ gO by rw [hg17]; exact below_size BR_4.out)
      clear hg17
      generalize w_4.alloc (.cells #[.int .i64 0, .int .i64 0, .slice none 0 0] 25 (0, 0)) = w_4_6 at *
      refine hK.out _ _ ⟨(blk_cell (blk_below T20.out BR_4_6.out) 0).trans rfl, (blk_cell (blk_below P20.out BR_4_6.out) 1).trans rfl⟩ (fun hHeld => ?_)
      clear hK K
      refine norm_ (a' := ?_) ?_ ?_
      rotate_left
      ·show Act.put _ (some 7) _ = _
       simp only [Act.put, List.setIfInBounds_toArray, List.set_cons_zero, List.set_cons_succ, i64_w, i32_w]
       rfl
      refine one_ (i := 5) (N := some 42) #[tt_,tt_,tt_,tt_,tt_,tt_,tt_,ff_] rfl rfl (by kernel_rfl) (by decide) (fun K hK => ?_)
      refine goes_ Try.func48 (by kernel_rfl) rfl #[.int .i64 (wn : Int), .int .i64 (hn : Int)] (by rfl) rfl rfl (by (try simp only [List.map_toArray, List.map_cons, List.map_nil]); rfl) ?_
      refine (rBlank_calls _ (by rw [HKK.out]; exact HKB.out.2)).mono ?_
      rintro e w_4_6_5 ⟨v9, rfl, hR, hb⟩
      refine ⟨_, rfl, ?_⟩
      obtain ⟨go, co, hv9, hgo, hlt9, hty9⟩ := Kd.R_form hR (by rw [List.length_replicate, HKK.out]; exact HKB.out.1)
      rw [List.length_replicate, HKK.out] at hv9
      subst hv9
      have BR_4_6_5 := Aside0.mk (below_step BR_4_6.out hb)
      have V_4_6_5 := Aside0.mk (Kd.R_lower hR (below_size BR_4_6.out))
      have GO := Aside0.mk (Nat.le_trans (below_size BR_4_6.out) hgo)
      have Z_4_6_5 := Aside0.mk (blk_below Z_4_6.out hb)
      clear hR hgo hlt9 hty9 hb
      refine hK.out _ _ ⟨(blk_cell (blk_below T20.out BR_4_6_5.out) 0).trans rfl, (blk_cell (blk_below P20.out BR_4_6_5.out) 1).trans rfl⟩ (fun hHeld => ?_)
      clear hK K
      refine norm_ (a' := ?_) ?_ ?_
      rotate_left
      ·show Act.put _ (some 42) _ = _
       simp only [Act.put, List.setIfInBounds_toArray, List.set_cons_zero, List.set_cons_succ, i64_w, i32_w]
       rfl
      exact norm_ (by rfl) (hCont (go, co, gO) _ ⟨V_4_6_5.out, GO.out, Z_4_6_5.out, GEgO.out, BR_4_6_5.out⟩)
    ·skip
     refine alloc_step (cs := #[.int .i64 0, .int .i64 0, .slice none 0 0]) (t := 25) (by rfl) rfl (by first | (go_simp; done) | (go_simp; rfl)) ?_
     intro gO hg17
     have BR_6 := Aside0.mk (below_alloc BR_.out (.cells #[.int .i64 0, .int .i64 0, .slice none 0 0] 25 (0, 0)))
     have Z_6 := Aside0.mk (blk_new w20 (.cells #[.int .i64 0, .int .i64 0, .slice none 0 0] 25 (0, 0)))
     rw [← hg17] at Z_6
     have GEgO := Aside0.mk (show w20.heap.size ≤ gO by rw [hg17]; exact below_size BR_.out)
     clear hg17
     generalize w20.alloc (.cells #[.int .i64 0, .int .i64 0, .slice none 0 0] 25 (0, 0)) = w_6 at *
     refine hK.out _ _ ⟨(blk_cell (blk_below T20.out BR_6.out) 0).trans rfl, (blk_cell (blk_below P20.out BR_6.out) 1).trans rfl⟩ (fun hHeld => ?_)
     clear hK K
     refine norm_ (a' := ?_) ?_ ?_
     rotate_left
     ·show Act.put _ (some 7) _ = _
      simp only [Act.put, List.setIfInBounds_toArray, List.set_cons_zero, List.set_cons_succ, i64_w, i32_w]
      rfl
     refine one_ (i := 4) (N := some 41) #[tt_,tt_,tt_,tt_,tt_,ff_,tt_,ff_] rfl rfl (by kernel_rfl) (by decide) (fun K hK => ?_)
     refine goes_ Try.func45 (by kernel_rfl) rfl #[.int .i64 (H : Int)] (by rfl) rfl rfl (by (try simp only [List.map_toArray, List.map_cons, List.map_nil]); rfl) ?_
     refine (rHalf H _ HHB.out.2).mono ?_
     rw [HHN.out]
     rintro e w_6_4 ⟨rfl, hb⟩
     refine ⟨_, rfl, ?_⟩
     have BR_6_4 := Aside0.mk (below_step BR_6.out hb)
     have Z_6_4 := Aside0.mk (blk_below Z_6.out hb)
     clear hb
     refine hK.out _ _ ⟨(blk_cell (blk_below T20.out BR_6_4.out) 0).trans rfl, (blk_cell (blk_below P20.out BR_6_4.out) 1).trans rfl⟩ (fun hHeld => ?_)
     clear hK K
     refine norm_ (a' := ?_) ?_ ?_
     rotate_left
     ·show Act.put _ (some 41) _ = _
      simp only [Act.put, List.setIfInBounds_toArray, List.set_cons_zero, List.set_cons_succ, i64_w, i32_w]
      rfl
     refine one_ (i := 5) (N := some 42) #[tt_,tt_,tt_,tt_,tt_,tt_,tt_,ff_] rfl rfl (by kernel_rfl) (by decide) (fun K hK => ?_)
     refine goes_ Try.func48 (by kernel_rfl) rfl #[.int .i64 (wn : Int), .int .i64 (hn : Int)] (by rfl) rfl rfl (by (try simp only [List.map_toArray, List.map_cons, List.map_nil]); rfl) ?_
     refine (rBlank_calls _ (by rw [HKK.out]; exact HKB.out.2)).mono ?_
     rintro e w_6_4_5 ⟨v9, rfl, hR, hb⟩
     refine ⟨_, rfl, ?_⟩
     obtain ⟨go, co, hv9, hgo, hlt9, hty9⟩ := Kd.R_form hR (by rw [List.length_replicate, HKK.out]; exact HKB.out.1)
     rw [List.length_replicate, HKK.out] at hv9
     subst hv9
     have BR_6_4_5 := Aside0.mk (below_step BR_6_4.out hb)
     have V_6_4_5 := Aside0.mk (Kd.R_lower hR (below_size BR_6_4.out))
     have GO := Aside0.mk (Nat.le_trans (below_size BR_6_4.out) hgo)
     have Z_6_4_5 := Aside0.mk (blk_below Z_6_4.out hb)
     clear hR hgo hlt9 hty9 hb
     refine hK.out _ _ ⟨(blk_cell (blk_below T20.out BR_6_4_5.out) 0).trans rfl, (blk_cell (blk_below P20.out BR_6_4_5.out) 1).trans rfl⟩ (fun hHeld => ?_)
     clear hK K
     refine norm_ (a' := ?_) ?_ ?_
     rotate_left
     ·show Act.put _ (some 42) _ = _
      simp only [Act.put, List.setIfInBounds_toArray, List.set_cons_zero, List.set_cons_succ, i64_w, i32_w]
      rfl
     exact norm_ (by rfl) (hCont (go, co, gO) _ ⟨V_6_4_5.out, GO.out, Z_6_4_5.out, GEgO.out, BR_6_4_5.out⟩)
   rintro ⟨go, co, gO⟩ w50 ⟨hV, hgo, hZ, hge, hB⟩
   simp only at hV hgo hZ hge
   have V50 := Aside0.mk (hV)
   have GO := Aside0.mk (hgo)
   have Z50 := Aside0.mk (hZ)
   have GE := Aside0.mk (hge)
   have BR50 := Aside0.mk (hB)
   have hHeld : w50.cell? ⟨gT, 0, none⟩ = some (.int .i64 (wn : Int)) ∧ w50.cell? ⟨gP, 1, none⟩ = some (.int .i64 (H : Int)) := ⟨(blk_cell (blk_below T20.out BR50.out) 0).trans rfl, (blk_cell (blk_below P20.out BR50.out) 1).trans rfl⟩
   clear hV hgo hZ hge hB
   refine norm_ (a' := ?_) ?_ ?_
   rotate_left
   ·simp only [YtodlgdpkadkjjaaW.PrintLast.putAll, Act.put, List.setIfInBounds_toArray, List.set_cons_zero, List.set_cons_succ]
    rfl
   refine last_ (i := 7) (N := none) #[tt_,tt_,tt_,tt_,tt_,tt_,tt_,tt_] rfl rfl (by kernel_rfl) (by decide) (fun K hK => ?_)
   refine storeP_step (by rfl) rfl rfl gO (wn : Int) (hn : Int) (some ⟨go, 0, none⟩) kz co _ _ _ rfl rfl Z50.out ?_
   intro w21 hm_ hst_ hbl_
   have M21 := Aside0.mk (show M3 w20 gO wn hn go kz co w21 (List.replicate (wn * hn) 0) from ⟨Kd.R_mono (Kd.R_move (Kd.R_types V50.out Z50.out (by decide)) (fun k hk => hst_ k hk.2)) (fun _ _ => trivial), hm_, BR50.out.trans (hbl_ _ GE.out)⟩)
   clear hm_ hst_ hbl_
   refine hK.out _ _ ?_
   clear hK K
   refine done_ (by kernel_rfl) ?_
   clear hHeld
   have HD0 : Aside0 (Done (cG reduceS wn H xs) wn hn 0 0 (List.replicate (wn * hn) 0)) := ⟨Done.zero _ _ _⟩
   obtain ⟨L0, hL0⟩ : ∃ L0, List.replicate (wn * hn) 0 = L0 := ⟨_, rfl⟩
   rw [hL0] at HD0 M21
   obtain ⟨G, hG⟩ : ∃ G, cG reduceS wn H xs = G := ⟨_, rfl⟩
   have HGG := Aside0.mk hG
   rw [hG] at HD0 HRS
   clear hL0 hG V50 Z50 BR50 BR_
   go_wp2
   go_loopw [8] (fun xv wr => ∃ (x : Nat) (L : List Nat), x ≤ wn ∧ xv = .int .i64 (x : Int) ∧ Aside0 (Done G wn hn x 0 L) ∧ Aside0 (M3 w20 gO wn hn go kz co wr L)) (fun xv _ => wn - (intOf xv).toNat)
   case atStart => exact ⟨0, L0, Nat.zero_le _, rfl, HD0, M21⟩
   case round =>
    clear HD0 M21
    obtain ⟨x, L, hx, rfl, HD, HM⟩ := hrel
    have t0 := (blk_cell (blk_below T20.out HM.out.2.2) 0).trans rfl
    by_cases hxl : x < wn
    ·have c2 : decide ((x : Int) < (wn : Int)) = true := decide_eq_true (by omega)
     have HXL := Aside0.mk hxl
     have t1 := (blk_cell (blk_below T20.out HM.out.2.2) 1).trans rfl
     have t2 := (blk_cell (blk_below T20.out HM.out.2.2) 2).trans rfl
     obtain ⟨ls, hls⟩ : ∃ ls, hlv (colOf xs wn H x) H hn = ls := ⟨_, rfl⟩
     have HLS := Aside0.mk hls
     have HCL : Aside0 (∀ i, gt (colOf xs wn H x) i < 4294967296) := ⟨map_lt H (fun i => HML.out _)⟩
     have HLZ : Aside0 (∀ k, k < hn → gt ls k = G x k) := ⟨fun k hk => by
      rw [← hls, ← HGG.out]
      unfold hlv gt cG
      rw [List.getD_eq_getElem?_getD, List.getElem?_map, List.getElem?_range hk]
      rfl⟩
     clear hls
     go_wp2_with (first | (go_at_call 46; refine (rHalved L31.out HHB.out HCL.out).mono ?_; rw [HHN.out, HLS.out]; rintro e w32 ⟨A32, c32, rfl, hR, hL, hb⟩; have M32 := Aside0.mk (M3_below M31.out hb); have V32 := Aside0.mk (hR); have GLT := Aside0.mk (show go < w31.heap.size from M3_lt M31.out); clear hb hL hR) | (go_at_call 47; refine (rCol_calls (LM.out.below HM.out.2.2) HXL.out (by have := HWB2.out; omega) HHB.out.2 HMN.out).mono ?_; rintro e w31 ⟨A31, c31, rfl, hL, hb⟩; have M31 := Aside0.mk (M3_below HM.out hb); have L31 := Aside0.mk (hL); clear hb hL t0 t1 t2))
     have HD1 := HD
     obtain ⟨L1, hL1⟩ : ∃ L1, L1 = L := ⟨_, rfl⟩
     rw [← hL1] at M32 HD1
     clear HM HD hL1
     go_loopw [10] (fun yv wq => ∃ (k : Nat) (L : List Nat), k ≤ hn ∧ yv = .int .i64 (k : Int) ∧ Aside0 (Done G wn hn x k L) ∧ Aside0 (M3 w20 gO wn hn go kz co wq L) ∧ Aside0 ((nat .u32).R 50 wq w31.heap.size (fun _ => True) (.slice A32 hn c32) ls)) (fun yv _ => hn - (intOf yv).toNat)
     case atStart => exact ⟨0, L1, Nat.zero_le _, rfl, HD1, M32, V32⟩
     case round =>
      clear HD1 M32 V32 M31 L31
      obtain ⟨k, L, hk, rfl, HD, HM, HV⟩ := hrel
      by_cases hkl : k < hn
      ·have c3 : decide ((k : Int) < (hn : Int)) = true := decide_eq_true (by omega)
       have HKL := Aside0.mk hkl
       have i1 : ((k : Int) < (hn : Int)) = True := eq_true (by omega)
       obtain ⟨k1, hk1⟩ : ∃ k1, k * wn = k1 := ⟨_, rfl⟩
       obtain ⟨k2, hk2⟩ : ∃ k2, k1 + x = k2 := ⟨_, rfl⟩
       have hk2K : k2 < kz := by rw [← hk2, ← hk1, ← HKK.out, Nat.mul_comm wn hn]; exact idx_lt2 hxl hkl
       have i2 : ((k2 : Int) < (kz : Int)) = True := eq_true (by omega)
       have hKb2 := HKB.out.2
       have hk1b : k1 ≤ k2 := by omega
       have e1 : IntKind.i64.wrap ((k : Int) * (wn : Int)) = (k1 : Int) := by rw [← Int.natCast_mul, hk1]; exact wi64 (by omega) (by omega)
       have e2 : IntKind.i64.wrap ((k1 : Int) + (x : Int)) = (k2 : Int) := by rw [← hk2]; exact wi64 (by omega) (by omega)
       have HK12 : Aside0 (k * wn + x = k2) := ⟨by rw [hk1, hk2]⟩
       obtain ⟨ad, hA, hxz⟩ := C_nat (Kd.R_reads' HV.out).2.2 k (by rw [← HLS.out]; simp [hlv]; exact hkl)
       subst hA
       obtain ⟨z, hz⟩ : ∃ z, gt ls k = z := ⟨_, rfl⟩
       rw [hz] at hxz
       have HZ : Aside0 (z = G x k) := ⟨by rw [← hz]; exact HLZ.out k hkl⟩
       clear hk1 hk2 hz hkl
       go_upto_region 17 with (fail)
       have MM := Aside0.mk (M3_drew HM.out)
       have TT := Aside0.mk (blk_below T20.out MM.out.2.2)
       have VV := Aside0.mk (Kd.R_drew HV.out)
       have XX : Aside0 (wr.drew.cell? (ad.add k) = some (.int .u32 (z : Int))) := ⟨hxz⟩
       have z1 := (M3_cell MM.out k2 hk2K).1
       have zf := (M3_cell MM.out k2 hk2K).2
       clear hxz HM HV
       refine start_ (n := 14) (S := fun w' => w'.cell? ⟨gO, 2, none⟩ = some (.slice (some ⟨go, 0, none⟩) kz co) ∧ w'.cell? ⟨gT, 0, none⟩ = some (.int .i64 (wn : Int)) ∧ w'.cell? (ad.add k) = some (.int .u32 (z : Int))) (ds := [13]) #[ff_,ff_,ff_,ff_,ff_,ff_,ff_,ff_,ff_,ff_,ff_,ff_,ff_,ff_] (by kernel_rfl) rfl rfl ⟨(blk_cell MM.out.2.1 2).trans rfl, (blk_cell TT.out 0).trans rfl, XX.out⟩ (fun hHeld => ?_)
       generalize wr.drew = w33 at *
       refine pure_ (i := 0) (N := some 59) (v := ?_) (a' := ?_) #[tt_,ff_,ff_,ff_,ff_,ff_,ff_,ff_,ff_,ff_,ff_,ff_,ff_,ff_] rfl rfl (by kernel_rfl) (fun _ _ _ h => h) (Or.inl ⟨by rfl, ?_⟩) ?_ ?_
       rotate_left
       ·intro w'
        go_simp
        with_reducible rfl
       rotate_left
       ·simp only [Act.put, List.setIfInBounds_toArray, List.set_cons_zero, List.set_cons_succ, i64_w, i32_w]
        rfl
       refine pure_ (i := 2) (N := some 61) (v := ?_) (a' := ?_) #[tt_,ff_,tt_,ff_,ff_,ff_,ff_,ff_,ff_,ff_,ff_,ff_,ff_,ff_] rfl rfl (by kernel_rfl) (fun _ _ _ h => h) (Or.inl ⟨by rfl, ?_⟩) ?_ ?_
       rotate_left
       ·intro w'
        go_simp
        with_reducible rfl
       rotate_left
       ·simp only [Act.put, List.setIfInBounds_toArray, List.set_cons_zero, List.set_cons_succ, i64_w, i32_w]
        rfl
       refine pure_ (i := 3) (N := some 62) (v := ?_) (a' := ?_) #[tt_,ff_,tt_,tt_,ff_,ff_,ff_,ff_,ff_,ff_,ff_,ff_,ff_,ff_] rfl rfl (by kernel_rfl) (fun _ _ _ h => h) (Or.inl ⟨by rfl, ?_⟩) ?_ ?_
       rotate_left
       ·intro w'
        go_simp
        with_reducible rfl
       rotate_left
       ·simp only [Act.put, List.setIfInBounds_toArray, List.set_cons_zero, List.set_cons_succ, i64_w, i32_w]
        rfl
       refine pure_ (i := 6) (N := some 65) (v := ?_) (a' := ?_) #[tt_,ff_,tt_,tt_,ff_,ff_,tt_,ff_,ff_,ff_,ff_,ff_,ff_,ff_] rfl rfl (by kernel_rfl) (fun _ _ _ h => h) (Or.inl ⟨by rfl, ?_⟩) ?_ ?_
       rotate_left
       ·intro w'
        go_simp
        with_reducible rfl
       rotate_left
       ·simp only [Act.put, List.setIfInBounds_toArray, List.set_cons_zero, List.set_cons_succ, i64_w, i32_w]
        rfl
       refine pure_ (i := 8) (N := some 67) (v := ?_) (a' := ?_) #[tt_,ff_,tt_,tt_,ff_,ff_,tt_,ff_,tt_,ff_,ff_,ff_,ff_,ff_] rfl rfl (by kernel_rfl) (fun _ _ _ h => h) (Or.inl ⟨by rfl, ?_⟩) ?_ ?_
       rotate_left
       ·intro w'
        go_simp
        with_reducible rfl
       rotate_left
       ·simp only [Act.put, List.setIfInBounds_toArray, List.set_cons_zero, List.set_cons_succ, i64_w, i32_w]
        rfl
       refine pure_ (i := 9) (N := some 68) (v := ?_) (a' := ?_) #[tt_,ff_,tt_,tt_,ff_,ff_,tt_,ff_,tt_,tt_,ff_,ff_,ff_,ff_] rfl rfl (by kernel_rfl) (fun _ _ _ h => h) (Or.inl ⟨by rfl, ?_⟩) ?_ ?_
       rotate_left
       ·intro w'
        go_simp
        with_reducible rfl
       rotate_left
       ·simp only [Act.put, List.setIfInBounds_toArray, List.set_cons_zero, List.set_cons_succ, i64_w, i32_w]
        rfl
       refine pure_ (i := 10) (N := some 69) (v := ?_) (a' := ?_) #[tt_,ff_,tt_,tt_,ff_,ff_,tt_,ff_,tt_,tt_,tt_,ff_,ff_,ff_] rfl rfl (by kernel_rfl) (fun _ _ _ h => h) (Or.inl ⟨by rfl, ?_⟩) ?_ ?_
       rotate_left
       ·intro w'
        go_simp
        with_reducible rfl
       rotate_left
       ·simp only [Act.put, List.setIfInBounds_toArray, List.set_cons_zero, List.set_cons_succ, i64_w, i32_w]
        rfl
       refine take_ (i := 1) (N := some 60) (v := ?_) (a' := ?_) #[tt_,tt_,tt_,tt_,ff_,ff_,tt_,ff_,tt_,tt_,tt_,ff_,ff_,ff_] rfl rfl (by kernel_rfl) (fun _ _ _ h => h) (Or.inl ⟨by rfl, ?_⟩) hHeld ?_ ?_
       rotate_left
       ·rintro w' ⟨s0, s1, s2⟩
        go_simp
        with_reducible rfl
       rotate_left
       ·simp only [Act.put, List.setIfInBounds_toArray, List.set_cons_zero, List.set_cons_succ, i64_w, i32_w]
        rfl
       refine take_ (i := 4) (N := some 63) (v := ?_) (a' := ?_) #[tt_,tt_,tt_,tt_,tt_,ff_,tt_,ff_,tt_,tt_,tt_,ff_,ff_,ff_] rfl rfl (by kernel_rfl) (fun _ _ _ h => h) (Or.inl ⟨by rfl, ?_⟩) hHeld ?_ ?_
       rotate_left
       ·rintro w' ⟨s0, s1, s2⟩
        go_simp
        with_reducible rfl
       rotate_left
       ·simp only [Act.put, List.setIfInBounds_toArray, List.set_cons_zero, List.set_cons_succ, i64_w, i32_w]
        rfl
       refine pure_ (i := 5) (N := some 64) (v := ?_) (a' := ?_) #[tt_,tt_,tt_,tt_,tt_,tt_,tt_,ff_,tt_,tt_,tt_,ff_,ff_,ff_] rfl rfl (by kernel_rfl) (fun _ _ _ h => h) (Or.inl ⟨by rfl, ?_⟩) ?_ ?_
       rotate_left
       ·intro w'
        go_simp
        with_reducible rfl
       rotate_left
       ·simp only [Act.put, List.setIfInBounds_toArray, List.set_cons_zero, List.set_cons_succ, i64_w, i32_w]
        rfl
       refine pure_ (i := 7) (N := some 66) (v := ?_) (a' := ?_) #[tt_,tt_,tt_,tt_,tt_,tt_,tt_,tt_,tt_,tt_,tt_,ff_,ff_,ff_] rfl rfl (by kernel_rfl) (fun _ _ _ h => h) (Or.inl ⟨by rfl, ?_⟩) ?_ ?_
       rotate_left
       ·intro w'
        go_simp
        with_reducible rfl
       rotate_left
       ·simp only [Act.put, List.setIfInBounds_toArray, List.set_cons_zero, List.set_cons_succ, i64_w, i32_w]
        rfl
       refine take_ (i := 11) (N := some 70) (v := ?_) (a' := ?_) #[tt_,tt_,tt_,tt_,tt_,tt_,tt_,tt_,tt_,tt_,tt_,tt_,ff_,ff_] rfl rfl (by kernel_rfl) (fun _ _ _ h => h) (Or.inl ⟨by rfl, ?_⟩) hHeld ?_ ?_
       rotate_left
       ·rintro w' ⟨s0, s1, s2⟩
        go_simp
        with_reducible rfl
       rotate_left
       ·simp only [Act.put, List.setIfInBounds_toArray, List.set_cons_zero, List.set_cons_succ, i64_w, i32_w]
        rfl
       refine pure_ (i := 12) (N := some 71) (v := ?_) (a' := ?_) #[tt_,tt_,tt_,tt_,tt_,tt_,tt_,tt_,tt_,tt_,tt_,tt_,tt_,ff_] rfl rfl (by kernel_rfl) (fun _ _ _ h => h) (Or.inl ⟨by rfl, ?_⟩) ?_ ?_
       rotate_left
       ·intro w'
        go_simp
        with_reducible rfl
       rotate_left
       ·simp only [Act.put, List.setIfInBounds_toArray, List.set_cons_zero, List.set_cons_succ, i64_w, i32_w]
        rfl
       refine last_ (i := 13) (N := none) #[tt_,tt_,tt_,tt_,tt_,tt_,tt_,tt_,tt_,tt_,tt_,tt_,tt_,tt_] rfl rfl (by kernel_rfl) (by decide) (fun K hK => ?_)
       refine skip_ (w1 := ?_) (by rfl) rfl ?_ ?_
       rotate_left
       ·go_simp
        rfl
       refine hK.out _ _ ?_
       clear hK K
       refine done_ (by kernel_rfl) ?_
       have MN := Aside0.mk (M3_put MM.out k2 z GO.out)
       have VN := Aside0.mk (R_setn (g := go) (i := k2) (u := .int .u32 (z : Int)) VV.out GLT.out)
       have DN : Aside0 (Done G wn hn x (k + 1) (L.set k2 z)) := ⟨by rw [HZ.out, ← HK12.out]; exact HD.out.put HXL.out HKL.out⟩
       generalize w33.setCell ⟨go, k2, none⟩ (.int .u32 (z : Int)) = wm at *
       clear z1 zf XX MM TT VV hHeld
       go_wp2
       go_roundw
       case measure => simp [intOf]; have := HKL.out; omega
       case rel => exact ⟨k + 1, L.set k2 z, HKL.out, by go_num, DN, MN, VN⟩
      ·obtain rfl : hn = k := by omega
       have c3 : decide ((hn : Int) < (hn : Int)) = false := decide_eq_false (by omega)
       have DN := Aside0.mk HD.out.next
       clear HD HV
       go_wp2
       go_roundw
       case measure => simp [intOf]; have := HXL.out; omega
       case rel => exact ⟨x + 1, L, HXL.out, by go_num, DN, HM⟩
    ·obtain rfl : wn = x := by omega
     have c2 : decide ((wn : Int) < (wn : Int)) = false := decide_eq_false (by omega)
     have o0 := (blk_cell HM.out.2.1 0).trans rfl
     have o1 := (blk_cell HM.out.2.1 1).trans rfl
     have o2 := (blk_cell HM.out.2.1 2).trans rfl
     have RR := Aside0.mk (blk_below R20.out HM.out.2.2)
     have BB := Aside0.mk (below_step B20.out HM.out.2.2)
     have e5 : L = resZ reduceS W H wn hn p := (HD.out.all hwb.1).trans HRS.out
     have E5 := Aside0.mk e5
     clear e5 HD
     go_wp2_with (first | ((with_reducible refine gate_store (p := 2) rfl ?_); refine storeP_event rfl rfl rfl gR (wn : Int) (hn : Int) (some ⟨go, 0, none⟩) kz co _ _ _ rfl rfl RR.out ?_; intro w40 hm_ hst_ hbl_; have R40 := Aside0.mk (hm_); have V40 := Aside0.mk (Kd.R_mono (Kd.R_move (Kd.R_types HM.out.1 RR.out (by decide)) (fun k hk => hst_ k hk.2)) (fun _ _ => trivial)); have B40 := Aside0.mk (BB.out.trans (hbl_ _ GR.out)); clear hm_ hst_ hbl_))
     refine bodyPost_ret (results_ct rfl _ _ gR 25 #[.int .i64 (wn : Int), .int .i64 (hn : Int), .slice (some ⟨go, 0, none⟩) kz co] (0, 0) _ rfl R40.out Try.underlying25 rfl (by kernel_rfl)) rfl ?_
     exact ⟨_, rfl, by rw [← E5.out]; exact Kd.R_lower V40.out B20.out.size, B40.out⟩
end Go.Proofs.Ytodlgdpkadkjjaa.A
end
section
set_option linter.unusedVariables false
set_option linter.unusedSimpArgs false
namespace Go.Proofs.Ytodlgdpkadkjjaa.A
open Go.RowKit Go.Shelf Go.Proofs.YtodlgdpkadkjjaaW.PrintWords Go.Proofs.YtodlgdpkadkjjaaW.PrintLast Go.Proofs.YtodlgdpkadkjjaaW.PrintMore Go.Proofs.Ytodlgdpkadkjjaa.PPyramidLevels
set_option maxHeartbeats 2000000 in
set_option maxRecDepth 100000 in
theorem rReduce_bad (x y : Int) (A : Option Addr) (n cap : Nat) (w : World) (hn : n < 9223372036854775808) (hE : checkE x y n ≠ 0) :
    Calls Try.prog 14 #[.agg #[.int .i64 x, .int .i64 y, .slice A n cap]] w fun e w' => e = .returned (.tuple #[.agg #[.int .i64 0, .int .i64 0, .slice none 0 0], .int .i64 ((checkE x y n : Nat) : Int)]) ∧ Below w.heap.size w w' := by
 have hu25 := Try.underlying25
 obtain ⟨c, hc⟩ : ∃ c, checkE x y n = c := ⟨_, rfl⟩
 have HE := Aside0.mk hc
 have HNL := Aside0.mk hn
 rw [hc] at hE ⊢
 have t1 : ((c : Int) != 0) = true := by rw [bne_iff_ne]; omega
 clear hc hn hE
 go_enter Try.func14, Try.ntmps14
 go_wp2_with (first | ((with_reducible refine gate_dst (N := 1) rfl ?_); refine box_event ?hg (N := 1) ?hd (cs := #[.int .i64 x, .int .i64 y, .slice A n cap]) (t := 25) ?hr ?_; (case hd => rfl); (case hg => rfl); (case hr => first | (go_simp; done) | (go_simp; rfl)); intro gP hg_ w1 hm_ hb_; have P1 := Aside0.mk (hm_); have B1 := Aside0.mk (hb_); clear hm_ hb_ hg_) | ((with_reducible refine gate_dst (N := 2) rfl ?_); refine box_event ?hg (N := 2) ?hd (cs := #[.int .i64 0, .int .i64 0, .slice none 0 0]) (t := 25) ?hr ?_; (case hd => rfl); (case hg => rfl); (case hr => first | (go_simp; done) | (go_simp; rfl)); intro gR hg_ w2 hm_ hb_; have R2 := Aside0.mk (hm_); have P2 := Aside0.mk (blk_below P1.out hb_); have B2 := Aside0.mk (below_step B1.out hb_); have GR := Aside0.mk (show w.heap.size ≤ gR by rw [hg_]; exact below_size B1.out); have p0 := (blk_cell P2.out 0).trans rfl; have p1 := (blk_cell P2.out 1).trans rfl; have p2 := (blk_cell P2.out 2).trans rfl; clear hm_ hb_ hg_ P1 B1) | (go_at_call 44; refine (rCheck_calls x y A n cap _ HNL.out).mono ?_; rw [HE.out]; rintro e w3 ⟨rfl, hb⟩; have P3 := Aside0.mk (blk_below P2.out hb); have R3 := Aside0.mk (blk_below R2.out hb); have B3 := Aside0.mk (below_step B2.out hb); clear hb p0 p1 p2) | ((with_reducible refine gate_store (p := 2) rfl ?_); refine storeP_event rfl rfl rfl gR 0 0 none 0 0 _ _ _ rfl rfl R3.out ?_; intro w4 hm_ hst_ hbl_; have R40 := Aside0.mk (hm_); have B40 := Aside0.mk (B3.out.trans (hbl_ _ GR.out)); clear hm_ hst_ hbl_))
 refine bodyPost_ret (results_ct rfl _ _ gR 25 #[.int .i64 0, .int .i64 0, .slice none 0 0] (0, 0) _ rfl R40.out Try.underlying25 rfl (by kernel_rfl)) rfl ?_
 exact ⟨rfl, B40.out⟩
set_option maxHeartbeats 2000000 in
set_option maxRecDepth 100000 in
theorem rExpand_bad (x y : Int) (A : Option Addr) (n cap : Nat) (u v : Int) (w : World) (hn : n < 9223372036854775808) (hE : checkE x y n ≠ 0) :
    Calls Try.prog 15 #[.agg #[.int .i64 x, .int .i64 y, .slice A n cap], .int .i64 u, .int .i64 v] w fun e w' => e = .returned (.tuple #[.agg #[.int .i64 0, .int .i64 0, .slice none 0 0], .int .i64 ((checkE x y n : Nat) : Int)]) ∧ Below w.heap.size w w' := by
 have hu25 := Try.underlying25
 obtain ⟨c, hc⟩ : ∃ c, checkE x y n = c := ⟨_, rfl⟩
 have HE := Aside0.mk hc
 have HNL := Aside0.mk hn
 rw [hc] at hE ⊢
 have t1 : ((c : Int) != 0) = true := by rw [bne_iff_ne]; omega
 clear hc hn hE
 go_enter Try.func15, Try.ntmps15
 go_wp2_with (first | ((with_reducible refine gate_dst (N := 3) rfl ?_); refine box_event ?hg (N := 3) ?hd (cs := #[.int .i64 x, .int .i64 y, .slice A n cap]) (t := 25) ?hr ?_; (case hd => rfl); (case hg => rfl); (case hr => first | (go_simp; done) | (go_simp; rfl)); intro gP hg_ w1 hm_ hb_; have P1 := Aside0.mk (hm_); have B1 := Aside0.mk (hb_); clear hm_ hb_ hg_) | ((with_reducible refine gate_dst (N := 6) rfl ?_); refine box_event ?hg (N := 6) ?hd (cs := #[.int .i64 0, .int .i64 0, .slice none 0 0]) (t := 25) ?hr ?_; (case hd => rfl); (case hg => rfl); (case hr => first | (go_simp; done) | (go_simp; rfl)); intro gR hg_ w2 hm_ hb_; have R2 := Aside0.mk (hm_); have P2 := Aside0.mk (blk_below P1.out hb_); have B2 := Aside0.mk (below_step B1.out hb_); have GR := Aside0.mk (show w.heap.size ≤ gR by rw [hg_]; exact below_size B1.out); have p0 := (blk_cell P2.out 0).trans rfl; have p1 := (blk_cell P2.out 1).trans rfl; have p2 := (blk_cell P2.out 2).trans rfl; clear hm_ hb_ hg_ P1 B1) | (go_at_call 44; refine (rCheck_calls x y A n cap _ HNL.out).mono ?_; rw [HE.out]; rintro e w3 ⟨rfl, hb⟩; have P3 := Aside0.mk (blk_below P2.out hb); have R3 := Aside0.mk (blk_below R2.out hb); have B3 := Aside0.mk (below_step B2.out hb); clear hb p0 p1 p2) | ((with_reducible refine gate_store (p := 6) rfl ?_); refine storeP_event rfl rfl rfl gR 0 0 none 0 0 _ _ _ rfl rfl R3.out ?_; intro w4 hm_ hst_ hbl_; have R40 := Aside0.mk (hm_); have B40 := Aside0.mk (B3.out.trans (hbl_ _ GR.out)); clear hm_ hst_ hbl_))
 refine bodyPost_ret (results_ct rfl _ _ gR 25 #[.int .i64 0, .int .i64 0, .slice none 0 0] (0, 0) _ rfl R40.out Try.underlying25 rfl (by kernel_rfl)) rfl ?_
 exact ⟨rfl, B40.out⟩
set_option maxHeartbeats 4000000 in
set_option maxRecDepth 100000 in
theorem rExpand_size (W H : Nat) (p : List Nat) (A : Option Addr) (n cap : Nat) (u v : Int) (w : World) (hp : (Pl.mk W H p).ok) (hn : p.length = n) (hS : sizeB u v = false) :
    Calls Try.prog 15 #[.agg #[.int .i64 (W : Int), .int .i64 (H : Int), .slice A n cap], .int .i64 u, .int .i64 v] w fun e w' => e = .returned (.tuple #[.agg #[.int .i64 0, .int .i64 0, .slice none 0 0], .int .i64 141]) ∧ Below w.heap.size w w' := by
 have hu25 := Try.underlying25
 have HE : Aside0 (checkE (W : Int) (H : Int) n = 0) := ⟨by rw [← hn]; exact hp.checkE⟩
 obtain ⟨p1, p2, p3, p4, p5, p6, p7⟩ := hp
 have p5 : W * H ≤ 65536 := p5
 have p6 : p.length = W * H := p6
 have HNL : Aside0 (n < 9223372036854775808) := ⟨by omega⟩
 have HSB := Aside0.mk hS
 clear p1 p2 p3 p4 p5 p6 p7 hn hS
 go_enter Try.func15, Try.ntmps15
 go_upto_region 4 with (first | ((with_reducible refine gate_dst (N := 3) rfl ?_); refine box_event ?hg (N := 3) ?hd (cs := #[.int .i64 (W : Int), .int .i64 (H : Int), .slice A n cap]) (t := 25) ?hr ?_; (case hd => rfl); (case hg => rfl); (case hr => first | (go_simp; done) | (go_simp; rfl)); intro gP hg_ w1 hm_ hb_; have P1 := Aside0.mk (hm_); have B1 := Aside0.mk (hb_); clear hm_ hb_ hg_) | ((with_reducible refine gate_dst (N := 6) rfl ?_); refine box_event ?hg (N := 6) ?hd (cs := #[.int .i64 0, .int .i64 0, .slice none 0 0]) (t := 25) ?hr ?_; (case hd => rfl); (case hg => rfl); (case hr => first | (go_simp; done) | (go_simp; rfl)); intro gR hg_ w2 hm_ hb_; have R2 := Aside0.mk (hm_); have P2 := Aside0.mk (blk_below P1.out hb_); have B2 := Aside0.mk (below_step B1.out hb_); have GR := Aside0.mk (show w.heap.size ≤ gR by rw [hg_]; exact below_size B1.out); have p0 := (blk_cell P2.out 0).trans rfl; have p1 := (blk_cell P2.out 1).trans rfl; have p2 := (blk_cell P2.out 2).trans rfl; clear hm_ hb_ hg_ P1 B1) | (go_at_call 44; refine (rCheck_calls (W : Int) (H : Int) A n cap _ HNL.out).mono ?_; rw [HE.out]; rintro e w3 ⟨rfl, hb⟩; have P3 := Aside0.mk (blk_below P2.out hb); have R3 := Aside0.mk (blk_below R2.out hb); have B3 := Aside0.mk (below_step B2.out hb); clear hb p0 p1 p2))
 have P4 := Aside0.mk (blk_drew P3.out)
 have R4 := Aside0.mk (blk_drew R3.out)
 have B4 : Aside0 (Below w.heap.size w w3.drew) := ⟨below_drew1 B3.out⟩
 clear P3 R3 B3
 refine start_ (n := 18) (S := fun w' => w'.cell? ⟨gP, 0, none⟩ = some (.int .i64 (W : Int)) ∧ w'.cell? ⟨gP, 1, none⟩ = some (.int .i64 (H : Int))) (ds := []) #[ff_,ff_,ff_,ff_,ff_,ff_,ff_,ff_,ff_,ff_,ff_,ff_,ff_,ff_,ff_,ff_,ff_,ff_] (by kernel_rfl) rfl rfl ⟨(blk_cell P4.out 0).trans rfl, (blk_cell P4.out 1).trans rfl⟩ (fun hHeld => ?_)
 generalize w3.drew = w4 at *
 refine pure_ (i := 0) (N := some 21) (v := ?_) (a' := ?_) #[tt_,ff_,ff_,ff_,ff_,ff_,ff_,ff_,ff_,ff_,ff_,ff_,ff_,ff_,ff_,ff_,ff_,ff_] rfl rfl (by kernel_rfl) (fun _ _ _ h => h) (Or.inl ⟨by rfl, ?_⟩) ?_ ?_
 rotate_left
 ·intro w'
  go_simp
  with_reducible rfl
 rotate_left
 ·simp only [Act.put, List.setIfInBounds_toArray, List.set_cons_zero, List.set_cons_succ, i64_w, i32_w]
  rfl
 refine pure_ (i := 1) (N := some 22) (v := ?_) (a' := ?_) #[tt_,tt_,ff_,ff_,ff_,ff_,ff_,ff_,ff_,ff_,ff_,ff_,ff_,ff_,ff_,ff_,ff_,ff_] rfl rfl (by kernel_rfl) (fun _ _ _ h => h) (Or.inl ⟨by rfl, ?_⟩) ?_ ?_
 rotate_left
 ·intro w'
  go_simp
  with_reducible rfl
 rotate_left
 ·simp only [Act.put, List.setIfInBounds_toArray, List.set_cons_zero, List.set_cons_succ, i64_w, i32_w]
  rfl
 refine one_ (i := 2) (N := some 23) #[tt_,tt_,tt_,ff_,ff_,ff_,ff_,ff_,ff_,ff_,ff_,ff_,ff_,ff_,ff_,ff_,ff_,ff_] rfl rfl (by kernel_rfl) (by decide) (fun K hK => ?_)
 refine goes_ Try.func49 (by kernel_rfl) rfl #[.int .i64 u, .int .i64 v] (by rfl) rfl rfl (by (try simp only [List.map_toArray, List.map_cons, List.map_nil]); rfl) ?_
 with_reducible refine (rSize_calls u v _).mono ?_
 rw [HSB.out]
 rintro e _ ⟨rfl, rfl⟩
 refine ⟨_, rfl, ?_⟩
 refine hK.out _ _ ⟨(blk_cell P4.out 0).trans rfl, (blk_cell P4.out 1).trans rfl⟩ (fun hHeld => ?_)
 clear hK K
 refine norm_ (a' := ?_) ?_ ?_
 rotate_left
 ·show Act.put _ (some 23) _ = _
  simp only [Act.put, List.setIfInBounds_toArray, List.set_cons_zero, List.set_cons_succ, i64_w, i32_w]
  rfl
 refine pure_ (i := 3) (N := some 24) (v := ?_) (a' := ?_) #[tt_,tt_,tt_,tt_,ff_,ff_,ff_,ff_,ff_,ff_,ff_,ff_,ff_,ff_,ff_,ff_,ff_,ff_] rfl rfl (by kernel_rfl) (fun _ _ _ h => h) (Or.inl ⟨by rfl, ?_⟩) ?_ ?_
 rotate_left
 ·intro w'
  go_simp
  with_reducible rfl
 rotate_left
 ·simp only [Act.put, List.setIfInBounds_toArray, List.set_cons_zero, List.set_cons_succ, i64_w, i32_w]
  rfl
 refine pure_ (i := 4) (N := some 25) (v := ?_) (a' := ?_) #[tt_,tt_,tt_,tt_,tt_,ff_,ff_,ff_,ff_,ff_,ff_,ff_,ff_,ff_,ff_,ff_,ff_,ff_] rfl rfl (by kernel_rfl) (fun _ _ _ h => h) (Or.inl ⟨by rfl, ?_⟩) ?_ ?_
 rotate_left
 ·intro w'
  go_simp
  with_reducible rfl
 rotate_left
 ·simp only [Act.put, List.setIfInBounds_toArray, List.set_cons_zero, List.set_cons_succ, i64_w, i32_w]
  rfl
 refine pure_ (i := 5) (N := some 26) (v := undef) (a' := ?_) #[tt_,tt_,tt_,tt_,tt_,tt_,ff_,ff_,ff_,ff_,ff_,ff_,ff_,ff_,ff_,ff_,ff_,ff_] rfl rfl (by kernel_rfl) (fun _ _ _ h => h) (Or.inr ⟨by rfl, rfl⟩) ?_ ?_
 rotate_left
 ·simp only [Act.put, List.setIfInBounds_toArray, List.set_cons_zero, List.set_cons_succ, i64_w, i32_w]
  rfl
 refine pure_ (i := 6) (N := some 27) (v := undef) (a' := ?_) #[tt_,tt_,tt_,tt_,tt_,tt_,tt_,ff_,ff_,ff_,ff_,ff_,ff_,ff_,ff_,ff_,ff_,ff_] rfl rfl (by kernel_rfl) (fun _ _ _ h => h) (Or.inr ⟨by rfl, rfl⟩) ?_ ?_
 rotate_left
 ·simp only [Act.put, List.setIfInBounds_toArray, List.set_cons_zero, List.set_cons_succ, i64_w, i32_w]
  rfl
 refine pure_ (i := 7) (N := some 28) (v := undef) (a' := ?_) #[tt_,tt_,tt_,tt_,tt_,tt_,tt_,tt_,ff_,ff_,ff_,ff_,ff_,ff_,ff_,ff_,ff_,ff_] rfl rfl (by kernel_rfl) (fun _ _ _ h => h) (Or.inr ⟨by rfl, rfl⟩) ?_ ?_
 rotate_left
 ·simp only [Act.put, List.setIfInBounds_toArray, List.set_cons_zero, List.set_cons_succ, i64_w, i32_w]
  rfl
 refine pure_ (i := 8) (N := some 29) (v := undef) (a' := ?_) #[tt_,tt_,tt_,tt_,tt_,tt_,tt_,tt_,tt_,ff_,ff_,ff_,ff_,ff_,ff_,ff_,ff_,ff_] rfl rfl (by kernel_rfl) (fun _ _ _ h => h) (Or.inr ⟨by rfl, rfl⟩) ?_ ?_
 rotate_left
 ·simp only [Act.put, List.setIfInBounds_toArray, List.set_cons_zero, List.set_cons_succ, i64_w, i32_w]
  rfl
 refine pure_ (i := 9) (N := some 30) (v := undef) (a' := ?_) #[tt_,tt_,tt_,tt_,tt_,tt_,tt_,tt_,tt_,tt_,ff_,ff_,ff_,ff_,ff_,ff_,ff_,ff_] rfl rfl (by kernel_rfl) (fun _ _ _ h => h) (Or.inr ⟨by rfl, rfl⟩) ?_ ?_
 rotate_left
 ·simp only [Act.put, List.setIfInBounds_toArray, List.set_cons_zero, List.set_cons_succ, i64_w, i32_w]
  rfl
 refine pure_ (i := 10) (N := some 31) (v := ?_) (a' := ?_) #[tt_,tt_,tt_,tt_,tt_,tt_,tt_,tt_,tt_,tt_,tt_,ff_,ff_,ff_,ff_,ff_,ff_,ff_] rfl rfl (by kernel_rfl) (fun _ _ _ h => h) (Or.inl ⟨by rfl, ?_⟩) ?_ ?_
 rotate_left
 ·intro w'
  go_simp
  with_reducible rfl
 rotate_left
 ·simp only [Act.put, List.setIfInBounds_toArray, List.set_cons_zero, List.set_cons_succ, i64_w, i32_w]
  rfl
 refine pure_ (i := 11) (N := some 32) (v := ?_) (a' := ?_) #[tt_,tt_,tt_,tt_,tt_,tt_,tt_,tt_,tt_,tt_,tt_,tt_,ff_,ff_,ff_,ff_,ff_,ff_] rfl rfl (by kernel_rfl) (fun _ _ _ h => h) (Or.inl ⟨by rfl, ?_⟩) ?_ ?_
 rotate_left
 ·intro w'
  go_simp
  with_reducible rfl
 rotate_left
 ·simp only [Act.put, List.setIfInBounds_toArray, List.set_cons_zero, List.set_cons_succ, i64_w, i32_w]
  rfl
 refine pure_ (i := 12) (N := some 33) (v := undef) (a' := ?_) #[tt_,tt_,tt_,tt_,tt_,tt_,tt_,tt_,tt_,tt_,tt_,tt_,tt_,ff_,ff_,ff_,ff_,ff_] rfl rfl (by kernel_rfl) (fun _ _ _ h => h) (Or.inr ⟨by rfl, rfl⟩) ?_ ?_
 rotate_left
 ·simp only [Act.put, List.setIfInBounds_toArray, List.set_cons_zero, List.set_cons_succ, i64_w, i32_w]
  rfl
 refine pure_ (i := 13) (N := some 34) (v := undef) (a' := ?_) #[tt_,tt_,tt_,tt_,tt_,tt_,tt_,tt_,tt_,tt_,tt_,tt_,tt_,tt_,ff_,ff_,ff_,ff_] rfl rfl (by kernel_rfl) (fun _ _ _ h => h) (Or.inr ⟨by rfl, rfl⟩) ?_ ?_
 rotate_left
 ·simp only [Act.put, List.setIfInBounds_toArray, List.set_cons_zero, List.set_cons_succ, i64_w, i32_w]
  rfl
 refine pure_ (i := 14) (N := some 35) (v := undef) (a' := ?_) #[tt_,tt_,tt_,tt_,tt_,tt_,tt_,tt_,tt_,tt_,tt_,tt_,tt_,tt_,tt_,ff_,ff_,ff_] rfl rfl (by kernel_rfl) (fun _ _ _ h => h) (Or.inr ⟨by rfl, rfl⟩) ?_ ?_
 rotate_left
 ·simp only [Act.put, List.setIfInBounds_toArray, List.set_cons_zero, List.set_cons_succ, i64_w, i32_w]
  rfl
 refine pure_ (i := 15) (N := some 36) (v := undef) (a' := ?_) #[tt_,tt_,tt_,tt_,tt_,tt_,tt_,tt_,tt_,tt_,tt_,tt_,tt_,tt_,tt_,tt_,ff_,ff_] rfl rfl (by kernel_rfl) (fun _ _ _ h => h) (Or.inr ⟨by rfl, rfl⟩) ?_ ?_
 rotate_left
 ·simp only [Act.put, List.setIfInBounds_toArray, List.set_cons_zero, List.set_cons_succ, i64_w, i32_w]
  rfl
 refine pure_ (i := 16) (N := some 37) (v := undef) (a' := ?_) #[tt_,tt_,tt_,tt_,tt_,tt_,tt_,tt_,tt_,tt_,tt_,tt_,tt_,tt_,tt_,tt_,tt_,ff_] rfl rfl (by kernel_rfl) (fun _ _ _ h => h) (Or.inr ⟨by rfl, rfl⟩) ?_ ?_
 rotate_left
 ·simp only [Act.put, List.setIfInBounds_toArray, List.set_cons_zero, List.set_cons_succ, i64_w, i32_w]
  rfl
 refine pure_ (i := 17) (N := some 38) (v := ?_) (a' := ?_) #[tt_,tt_,tt_,tt_,tt_,tt_,tt_,tt_,tt_,tt_,tt_,tt_,tt_,tt_,tt_,tt_,tt_,tt_] rfl rfl (by kernel_rfl) (fun _ _ _ h => h) (Or.inl ⟨by rfl, ?_⟩) ?_ ?_
 rotate_left
 ·intro w'
  go_simp
  with_reducible rfl
 rotate_left
 ·simp only [Act.put, List.setIfInBounds_toArray, List.set_cons_zero, List.set_cons_succ, i64_w, i32_w]
  rfl
 refine done_ (by kernel_rfl) ?_
 clear hHeld
 go_wp2_with (first | ((with_reducible refine gate_store (p := 6) rfl ?_); refine storeP_event rfl rfl rfl gR 0 0 none 0 0 _ _ _ rfl rfl R4.out ?_; intro w7 hm_ hst_ hbl_; have R40 := Aside0.mk (hm_); have B40 := Aside0.mk (B4.out.trans (hbl_ _ GR.out)); clear hm_ hst_ hbl_))
 refine bodyPost_ret (results_ct rfl _ _ gR 25 #[.int .i64 0, .int .i64 0, .slice none 0 0] (0, 0) _ rfl R40.out Try.underlying25 rfl (by kernel_rfl)) rfl ?_
 exact ⟨rfl, B40.out⟩
set_option maxHeartbeats 4000000 in
set_option maxRecDepth 100000 in
theorem rExpand_wide (W H : Nat) (p : List Nat) (A : Option Addr) (n cap : Nat) (wn hn : Nat) (w : World) (hp : (Pl.mk W H p).ok) (hnl : p.length = n) (hS : 0 < wn ∧ 0 < hn ∧ wn ≤ 1024 ∧ hn ≤ 1024 ∧ wn * hn ≤ 65536) (hW : hf wn ≠ W) :
    Calls Try.prog 15 #[.agg #[.int .i64 (W : Int), .int .i64 (H : Int), .slice A n cap], .int .i64 (wn : Int), .int .i64 (hn : Int)] w fun e w' => e = .returned (.tuple #[.agg #[.int .i64 0, .int .i64 0, .slice none 0 0], .int .i64 141]) ∧ Below w.heap.size w w' := by
 have hu25 := Try.underlying25
 have HE : Aside0 (checkE (W : Int) (H : Int) n = 0) := ⟨by rw [← hnl]; exact hp.checkE⟩
 obtain ⟨p1, p2, p3, p4, p5, p6, p7⟩ := hp
 have p5 : W * H ≤ 65536 := p5
 have p6 : p.length = W * H := p6
 have HNL : Aside0 (n < 9223372036854775808) := ⟨by omega⟩
 have HSO : Aside0 (sizeB (wn : Int) (hn : Int) = true) := ⟨sizeB_nat hS.1 hS.2.1 hS.2.2.1 hS.2.2.2.1 hS.2.2.2.2⟩
 have HWN : Aside0 (wn ≤ 1024) := ⟨by omega⟩
 have HHN : Aside0 (hn ≤ 1024) := ⟨by omega⟩
 have t1 : (((hf wn : Nat) : Int) != (W : Int)) = true := by rw [bne_iff_ne]; omega
 clear p1 p2 p3 p4 p5 p6 p7 hnl hS hW
 go_enter Try.func15, Try.ntmps15
 go_upto_region 4 with (first | ((with_reducible refine gate_dst (N := 3) rfl ?_); refine box_event ?hg (N := 3) ?hd (cs := #[.int .i64 (W : Int), .int .i64 (H : Int), .slice A n cap]) (t := 25) ?hr ?_; (case hd => rfl); (case hg => rfl); (case hr => first | (go_simp; done) | (go_simp; rfl)); intro gP hg_ w1 hm_ hb_; have P1 := Aside0.mk (hm_); have B1 := Aside0.mk (hb_); clear hm_ hb_ hg_) | ((with_reducible refine gate_dst (N := 6) rfl ?_); refine box_event ?hg (N := 6) ?hd (cs := #[.int .i64 0, .int .i64 0, .slice none 0 0]) (t := 25) ?hr ?_; (case hd => rfl); (case hg => rfl); (case hr => first | (go_simp; done) | (go_simp; rfl)); intro gR hg_ w2 hm_ hb_; have R2 := Aside0.mk (hm_); have P2 := Aside0.mk (blk_below P1.out hb_); have B2 := Aside0.mk (below_step B1.out hb_); have GR := Aside0.mk (show w.heap.size ≤ gR by rw [hg_]; exact below_size B1.out); have p0 := (blk_cell P2.out 0).trans rfl; have p1 := (blk_cell P2.out 1).trans rfl; have p2 := (blk_cell P2.out 2).trans rfl; clear hm_ hb_ hg_ P1 B1) | (go_at_call 44; refine (rCheck_calls (W : Int) (H : Int) A n cap _ HNL.out).mono ?_; rw [HE.out]; rintro e w3 ⟨rfl, hb⟩; have P3 := Aside0.mk (blk_below P2.out hb); have R3 := Aside0.mk (blk_below R2.out hb); have B3 := Aside0.mk (below_step B2.out hb); clear hb p0 p1 p2))
 have P4 := Aside0.mk (blk_drew P3.out)
 have R4 := Aside0.mk (blk_drew R3.out)
 have B4 : Aside0 (Below w.heap.size w w3.drew) := ⟨below_drew1 B3.out⟩
 clear P3 R3 B3
 refine start_ (n := 18) (S := fun w' => w'.cell? ⟨gP, 0, none⟩ = some (.int .i64 (W : Int)) ∧ w'.cell? ⟨gP, 1, none⟩ = some (.int .i64 (H : Int))) (ds := []) #[ff_,ff_,ff_,ff_,ff_,ff_,ff_,ff_,ff_,ff_,ff_,ff_,ff_,ff_,ff_,ff_,ff_,ff_] (by kernel_rfl) rfl rfl ⟨(blk_cell P4.out 0).trans rfl, (blk_cell P4.out 1).trans rfl⟩ (fun hHeld => ?_)
 generalize w3.drew = w4 at *
 refine pure_ (i := 0) (N := some 21) (v := ?_) (a' := ?_) #[tt_,ff_,ff_,ff_,ff_,ff_,ff_,ff_,ff_,ff_,ff_,ff_,ff_,ff_,ff_,ff_,ff_,ff_] rfl rfl (by kernel_rfl) (fun _ _ _ h => h) (Or.inl ⟨by rfl, ?_⟩) ?_ ?_
 rotate_left
 ·intro w'
  go_simp
  with_reducible rfl
 rotate_left
 ·simp only [Act.put, List.setIfInBounds_toArray, List.set_cons_zero, List.set_cons_succ, i64_w, i32_w]
  rfl
 refine pure_ (i := 1) (N := some 22) (v := ?_) (a' := ?_) #[tt_,tt_,ff_,ff_,ff_,ff_,ff_,ff_,ff_,ff_,ff_,ff_,ff_,ff_,ff_,ff_,ff_,ff_] rfl rfl (by kernel_rfl) (fun _ _ _ h => h) (Or.inl ⟨by rfl, ?_⟩) ?_ ?_
 rotate_left
 ·intro w'
  go_simp
  with_reducible rfl
 rotate_left
 ·simp only [Act.put, List.setIfInBounds_toArray, List.set_cons_zero, List.set_cons_succ, i64_w, i32_w]
  rfl
 refine one_ (i := 2) (N := some 23) #[tt_,tt_,tt_,ff_,ff_,ff_,ff_,ff_,ff_,ff_,ff_,ff_,ff_,ff_,ff_,ff_,ff_,ff_] rfl rfl (by kernel_rfl) (by decide) (fun K hK => ?_)
 refine goes_ Try.func49 (by kernel_rfl) rfl #[.int .i64 (wn : Int), .int .i64 (hn : Int)] (by rfl) rfl rfl (by (try simp only [List.map_toArray, List.map_cons, List.map_nil]); rfl) ?_
 with_reducible refine (rSize_calls (wn : Int) (hn : Int) _).mono ?_
 rw [HSO.out]
 rintro e _ ⟨rfl, rfl⟩
 refine ⟨_, rfl, ?_⟩
 refine hK.out _ _ ⟨(blk_cell P4.out 0).trans rfl, (blk_cell P4.out 1).trans rfl⟩ (fun hHeld => ?_)
 clear hK K
 refine norm_ (a' := ?_) ?_ ?_
 rotate_left
 ·show Act.put _ (some 23) _ = _
  simp only [Act.put, List.setIfInBounds_toArray, List.set_cons_zero, List.set_cons_succ, i64_w, i32_w]
  rfl
 refine pure_ (i := 3) (N := some 24) (v := ?_) (a' := ?_) #[tt_,tt_,tt_,tt_,ff_,ff_,ff_,ff_,ff_,ff_,ff_,ff_,ff_,ff_,ff_,ff_,ff_,ff_] rfl rfl (by kernel_rfl) (fun _ _ _ h => h) (Or.inl ⟨by rfl, ?_⟩) ?_ ?_
 rotate_left
 ·intro w'
  go_simp
  with_reducible rfl
 rotate_left
 ·simp only [Act.put, List.setIfInBounds_toArray, List.set_cons_zero, List.set_cons_succ, i64_w, i32_w]
  rfl
 refine pure_ (i := 4) (N := some 25) (v := ?_) (a' := ?_) #[tt_,tt_,tt_,tt_,tt_,ff_,ff_,ff_,ff_,ff_,ff_,ff_,ff_,ff_,ff_,ff_,ff_,ff_] rfl rfl (by kernel_rfl) (fun _ _ _ h => h) (Or.inl ⟨by rfl, ?_⟩) ?_ ?_
 rotate_left
 ·intro w'
  go_simp
  with_reducible rfl
 rotate_left
 ·simp only [Act.put, List.setIfInBounds_toArray, List.set_cons_zero, List.set_cons_succ, i64_w, i32_w]
  rfl
 refine pure_ (i := 5) (N := some 26) (v := ?_) (a' := ?_) #[tt_,tt_,tt_,tt_,tt_,tt_,ff_,ff_,ff_,ff_,ff_,ff_,ff_,ff_,ff_,ff_,ff_,ff_] rfl rfl (by kernel_rfl) (fun _ _ _ h => h) (Or.inl ⟨by rfl, ?_⟩) ?_ ?_
 rotate_left
 ·intro w'
  go_simp
  with_reducible rfl
 rotate_left
 ·simp only [Act.put, List.setIfInBounds_toArray, List.set_cons_zero, List.set_cons_succ, i64_w, i32_w]
  rfl
 refine pure_ (i := 7) (N := some 28) (v := ?_) (a' := ?_) #[tt_,tt_,tt_,tt_,tt_,tt_,ff_,tt_,ff_,ff_,ff_,ff_,ff_,ff_,ff_,ff_,ff_,ff_] rfl rfl (by kernel_rfl) (fun _ _ _ h => h) (Or.inl ⟨by rfl, ?_⟩) ?_ ?_
 rotate_left
 ·intro w'
  go_simp
  with_reducible rfl
 rotate_left
 ·simp only [Act.put, List.setIfInBounds_toArray, List.set_cons_zero, List.set_cons_succ, i64_w, i32_w]
  rfl
 refine take_ (i := 8) (N := some 29) (v := ?_) (a' := ?_) #[tt_,tt_,tt_,tt_,tt_,tt_,ff_,tt_,tt_,ff_,ff_,ff_,ff_,ff_,ff_,ff_,ff_,ff_] rfl rfl (by kernel_rfl) (fun _ _ _ h => h) (Or.inl ⟨by rfl, ?_⟩) hHeld ?_ ?_
 rotate_left
 ·rintro w' ⟨s0, s1⟩
  go_simp
  with_reducible rfl
 rotate_left
 ·simp only [Act.put, List.setIfInBounds_toArray, List.set_cons_zero, List.set_cons_succ, i64_w, i32_w]
  rfl
 refine one_ (i := 6) (N := some 27) #[tt_,tt_,tt_,tt_,tt_,tt_,tt_,tt_,tt_,ff_,ff_,ff_,ff_,ff_,ff_,ff_,ff_,ff_] rfl rfl (by kernel_rfl) (by decide) (fun K hK => ?_)
 refine goes_ Try.func45 (by kernel_rfl) rfl #[.int .i64 (wn : Int)] (by rfl) rfl rfl (by (try simp only [List.map_toArray, List.map_cons, List.map_nil]); rfl) ?_
 with_reducible refine (rHalf wn _ HWN.out).mono ?_
 rintro e w5 ⟨rfl, hb⟩
 refine ⟨_, rfl, ?_⟩
 have P5 := Aside0.mk (blk_below P4.out hb)
 have R5 := Aside0.mk (blk_below R4.out hb)
 have B5 := Aside0.mk (below_step B4.out hb)
 clear hb
 refine hK.out _ _ ⟨(blk_cell P5.out 0).trans rfl, (blk_cell P5.out 1).trans rfl⟩ (fun hHeld => ?_)
 clear hK K
 refine norm_ (a' := ?_) ?_ ?_
 rotate_left
 ·show Act.put _ (some 27) _ = _
  simp only [Act.put, List.setIfInBounds_toArray, List.set_cons_zero, List.set_cons_succ, i64_w, i32_w]
  rfl
 refine pure_ (i := 9) (N := some 30) (v := ?_) (a' := ?_) #[tt_,tt_,tt_,tt_,tt_,tt_,tt_,tt_,tt_,tt_,ff_,ff_,ff_,ff_,ff_,ff_,ff_,ff_] rfl rfl (by kernel_rfl) (fun _ _ _ h => h) (Or.inl ⟨by rfl, ?_⟩) ?_ ?_
 rotate_left
 ·intro w'
  go_simp
  with_reducible rfl
 rotate_left
 ·simp only [Act.put, List.setIfInBounds_toArray, List.set_cons_zero, List.set_cons_succ, i64_w, i32_w]
  rfl
 refine pure_ (i := 10) (N := some 31) (v := ?_) (a' := ?_) #[tt_,tt_,tt_,tt_,tt_,tt_,tt_,tt_,tt_,tt_,tt_,ff_,ff_,ff_,ff_,ff_,ff_,ff_] rfl rfl (by kernel_rfl) (fun _ _ _ h => h) (Or.inl ⟨by rfl, ?_⟩) ?_ ?_
 rotate_left
 ·intro w'
  go_simp
  with_reducible rfl
 rotate_left
 ·simp only [Act.put, List.setIfInBounds_toArray, List.set_cons_zero, List.set_cons_succ, i64_w, i32_w]
  rfl
 refine pure_ (i := 11) (N := some 32) (v := ?_) (a' := ?_) #[tt_,tt_,tt_,tt_,tt_,tt_,tt_,tt_,tt_,tt_,tt_,tt_,ff_,ff_,ff_,ff_,ff_,ff_] rfl rfl (by kernel_rfl) (fun _ _ _ h => h) (Or.inl ⟨by rfl, ?_⟩) ?_ ?_
 rotate_left
 ·intro w'
  go_simp
  with_reducible rfl
 rotate_left
 ·simp only [Act.put, List.setIfInBounds_toArray, List.set_cons_zero, List.set_cons_succ, i64_w, i32_w]
  rfl
 refine pure_ (i := 12) (N := some 33) (v := undef) (a' := ?_) #[tt_,tt_,tt_,tt_,tt_,tt_,tt_,tt_,tt_,tt_,tt_,tt_,tt_,ff_,ff_,ff_,ff_,ff_] rfl rfl (by kernel_rfl) (fun _ _ _ h => h) (Or.inr ⟨by rfl, rfl⟩) ?_ ?_
 rotate_left
 ·simp only [Act.put, List.setIfInBounds_toArray, List.set_cons_zero, List.set_cons_succ, i64_w, i32_w]
  rfl
 refine pure_ (i := 13) (N := some 34) (v := undef) (a' := ?_) #[tt_,tt_,tt_,tt_,tt_,tt_,tt_,tt_,tt_,tt_,tt_,tt_,tt_,tt_,ff_,ff_,ff_,ff_] rfl rfl (by kernel_rfl) (fun _ _ _ h => h) (Or.inr ⟨by rfl, rfl⟩) ?_ ?_
 rotate_left
 ·simp only [Act.put, List.setIfInBounds_toArray, List.set_cons_zero, List.set_cons_succ, i64_w, i32_w]
  rfl
 refine pure_ (i := 14) (N := some 35) (v := undef) (a' := ?_) #[tt_,tt_,tt_,tt_,tt_,tt_,tt_,tt_,tt_,tt_,tt_,tt_,tt_,tt_,tt_,ff_,ff_,ff_] rfl rfl (by kernel_rfl) (fun _ _ _ h => h) (Or.inr ⟨by rfl, rfl⟩) ?_ ?_
 rotate_left
 ·simp only [Act.put, List.setIfInBounds_toArray, List.set_cons_zero, List.set_cons_succ, i64_w, i32_w]
  rfl
 refine pure_ (i := 15) (N := some 36) (v := undef) (a' := ?_) #[tt_,tt_,tt_,tt_,tt_,tt_,tt_,tt_,tt_,tt_,tt_,tt_,tt_,tt_,tt_,tt_,ff_,ff_] rfl rfl (by kernel_rfl) (fun _ _ _ h => h) (Or.inr ⟨by rfl, rfl⟩) ?_ ?_
 rotate_left
 ·simp only [Act.put, List.setIfInBounds_toArray, List.set_cons_zero, List.set_cons_succ, i64_w, i32_w]
  rfl
 refine pure_ (i := 16) (N := some 37) (v := undef) (a' := ?_) #[tt_,tt_,tt_,tt_,tt_,tt_,tt_,tt_,tt_,tt_,tt_,tt_,tt_,tt_,tt_,tt_,tt_,ff_] rfl rfl (by kernel_rfl) (fun _ _ _ h => h) (Or.inr ⟨by rfl, rfl⟩) ?_ ?_
 rotate_left
 ·simp only [Act.put, List.setIfInBounds_toArray, List.set_cons_zero, List.set_cons_succ, i64_w, i32_w]
  rfl
 refine pure_ (i := 17) (N := some 38) (v := ?_) (a' := ?_) #[tt_,tt_,tt_,tt_,tt_,tt_,tt_,tt_,tt_,tt_,tt_,tt_,tt_,tt_,tt_,tt_,tt_,tt_] rfl rfl (by kernel_rfl) (fun _ _ _ h => h) (Or.inl ⟨by rfl, ?_⟩) ?_ ?_
 rotate_left
 ·intro w'
  go_simp
  with_reducible rfl
 rotate_left
 ·simp only [Act.put, List.setIfInBounds_toArray, List.set_cons_zero, List.set_cons_succ, i64_w, i32_w]
  rfl
 refine done_ (by kernel_rfl) ?_
 clear hHeld
 go_wp2_with (first | ((with_reducible refine gate_store (p := 6) rfl ?_); refine storeP_event rfl rfl rfl gR 0 0 none 0 0 _ _ _ rfl rfl R5.out ?_; intro w7 hm_ hst_ hbl_; have R40 := Aside0.mk (hm_); have B40 := Aside0.mk (B5.out.trans (hbl_ _ GR.out)); clear hm_ hst_ hbl_))
 refine bodyPost_ret (results_ct rfl _ _ gR 25 #[.int .i64 0, .int .i64 0, .slice none 0 0] (0, 0) _ rfl R40.out Try.underlying25 rfl (by kernel_rfl)) rfl ?_
 exact ⟨rfl, B40.out⟩
set_option maxHeartbeats 4000000 in
set_option maxRecDepth 100000 in
theorem rExpand_high (W H : Nat) (p : List Nat) (A : Option Addr) (n cap : Nat) (wn hn : Nat) (w : World) (hp : (Pl.mk W H p).ok) (hnl : p.length = n) (hS : 0 < wn ∧ 0 < hn ∧ wn ≤ 1024 ∧ hn ≤ 1024 ∧ wn * hn ≤ 65536) (hW : hf wn = W) (hH : hf hn ≠ H) :
    Calls Try.prog 15 #[.agg #[.int .i64 (W : Int), .int .i64 (H : Int), .slice A n cap], .int .i64 (wn : Int), .int .i64 (hn : Int)] w fun e w' => e = .returned (.tuple #[.agg #[.int .i64 0, .int .i64 0, .slice none 0 0], .int .i64 141]) ∧ Below w.heap.size w w' := by
 have hu25 := Try.underlying25
 have HE : Aside0 (checkE (W : Int) (H : Int) n = 0) := ⟨by rw [← hnl]; exact hp.checkE⟩
 obtain ⟨p1, p2, p3, p4, p5, p6, p7⟩ := hp
 have p5 : W * H ≤ 65536 := p5
 have p6 : p.length = W * H := p6
 have HNL : Aside0 (n < 9223372036854775808) := ⟨by omega⟩
 have HSO : Aside0 (sizeB (wn : Int) (hn : Int) = true) := ⟨sizeB_nat hS.1 hS.2.1 hS.2.2.1 hS.2.2.2.1 hS.2.2.2.2⟩
 have HWN : Aside0 (wn ≤ 1024) := ⟨by omega⟩
 have HHN : Aside0 (hn ≤ 1024) := ⟨by omega⟩
 have t1 : (((hf wn : Nat) : Int) != (W : Int)) = false := by rw [bne_eq_false_iff_eq]; omega
 have t2 : (((hf hn : Nat) : Int) != (H : Int)) = true := by rw [bne_iff_ne]; omega
 clear p1 p2 p3 p4 p5 p6 p7 hnl hS hW hH
 go_enter Try.func15, Try.ntmps15
 go_upto_region 4 with (first | ((with_reducible refine gate_dst (N := 3) rfl ?_); refine box_event ?hg (N := 3) ?hd (cs := #[.int .i64 (W : Int), .int .i64 (H : Int), .slice A n cap]) (t := 25) ?hr ?_; (case hd => rfl); (case hg => rfl); (case hr => first | (go_simp; done) | (go_simp; rfl)); intro gP hg_ w1 hm_ hb_; have P1 := Aside0.mk (hm_); have B1 := Aside0.mk (hb_); clear hm_ hb_ hg_) | ((with_reducible refine gate_dst (N := 6) rfl ?_); refine box_event ?hg (N := 6) ?hd (cs := #[.int .i64 0, .int .i64 0, .slice none 0 0]) (t := 25) ?hr ?_; (case hd => rfl); (case hg => rfl); (case hr => first | (go_simp; done) | (go_simp; rfl)); intro gR hg_ w2 hm_ hb_; have R2 := Aside0.mk (hm_); have P2 := Aside0.mk (blk_below P1.out hb_); have B2 := Aside0.mk (below_step B1.out hb_); have GR := Aside0.mk (show w.heap.size ≤ gR by rw [hg_]; exact below_size B1.out); have p0 := (blk_cell P2.out 0).trans rfl; have p1 := (blk_cell P2.out 1).trans rfl; have p2 := (blk_cell P2.out 2).trans rfl; clear hm_ hb_ hg_ P1 B1) | (go_at_call 44; refine (rCheck_calls (W : Int) (H : Int) A n cap _ HNL.out).mono ?_; rw [HE.out]; rintro e w3 ⟨rfl, hb⟩; have P3 := Aside0.mk (blk_below P2.out hb); have R3 := Aside0.mk (blk_below R2.out hb); have B3 := Aside0.mk (below_step B2.out hb); clear hb p0 p1 p2))
 have P4 := Aside0.mk (blk_drew P3.out)
 have R4 := Aside0.mk (blk_drew R3.out)
 have B4 : Aside0 (Below w.heap.size w w3.drew) := ⟨below_drew1 B3.out⟩
 clear P3 R3 B3
 refine start_ (n := 18) (S := fun w' => w'.cell? ⟨gP, 0, none⟩ = some (.int .i64 (W : Int)) ∧ w'.cell? ⟨gP, 1, none⟩ = some (.int .i64 (H : Int))) (ds := []) #[ff_,ff_,ff_,ff_,ff_,ff_,ff_,ff_,ff_,ff_,ff_,ff_,ff_,ff_,ff_,ff_,ff_,ff_] (by kernel_rfl) rfl rfl ⟨(blk_cell P4.out 0).trans rfl, (blk_cell P4.out 1).trans rfl⟩ (fun hHeld => ?_)
 generalize w3.drew = w4 at *
 refine pure_ (i := 0) (N := some 21) (v := ?_) (a' := ?_) #[tt_,ff_,ff_,ff_,ff_,ff_,ff_,ff_,ff_,ff_,ff_,ff_,ff_,ff_,ff_,ff_,ff_,ff_] rfl rfl (by kernel_rfl) (fun _ _ _ h => h) (Or.inl ⟨by rfl, ?_⟩) ?_ ?_
 rotate_left
 ·intro w'
  go_simp
  with_reducible rfl
 rotate_left
 ·simp only [Act.put, List.setIfInBounds_toArray, List.set_cons_zero, List.set_cons_succ, i64_w, i32_w]
  rfl
 refine pure_ (i := 1) (N := some 22) (v := ?_) (a' := ?_) #[tt_,tt_,ff_,ff_,ff_,ff_,ff_,ff_,ff_,ff_,ff_,ff_,ff_,ff_,ff_,ff_,ff_,ff_] rfl rfl (by kernel_rfl) (fun _ _ _ h => h) (Or.inl ⟨by rfl, ?_⟩) ?_ ?_
 rotate_left
 ·intro w'
  go_simp
  with_reducible rfl
 rotate_left
 ·simp only [Act.put, List.setIfInBounds_toArray, List.set_cons_zero, List.set_cons_succ, i64_w, i32_w]
  rfl
 refine one_ (i := 2) (N := some 23) #[tt_,tt_,tt_,ff_,ff_,ff_,ff_,ff_,ff_,ff_,ff_,ff_,ff_,ff_,ff_,ff_,ff_,ff_] rfl rfl (by kernel_rfl) (by decide) (fun K hK => ?_)
 refine goes_ Try.func49 (by kernel_rfl) rfl #[.int .i64 (wn : Int), .int .i64 (hn : Int)] (by rfl) rfl rfl (by (try simp only [List.map_toArray, List.map_cons, List.map_nil]); rfl) ?_
 with_reducible refine (rSize_calls (wn : Int) (hn : Int) _).mono ?_
 rw [HSO.out]
 rintro e _ ⟨rfl, rfl⟩
 refine ⟨_, rfl, ?_⟩
 refine hK.out _ _ ⟨(blk_cell P4.out 0).trans rfl, (blk_cell P4.out 1).trans rfl⟩ (fun hHeld => ?_)
 clear hK K
 refine norm_ (a' := ?_) ?_ ?_
 rotate_left
 ·show Act.put _ (some 23) _ = _
  simp only [Act.put, List.setIfInBounds_toArray, List.set_cons_zero, List.set_cons_succ, i64_w, i32_w]
  rfl
 refine pure_ (i := 3) (N := some 24) (v := ?_) (a' := ?_) #[tt_,tt_,tt_,tt_,ff_,ff_,ff_,ff_,ff_,ff_,ff_,ff_,ff_,ff_,ff_,ff_,ff_,ff_] rfl rfl (by kernel_rfl) (fun _ _ _ h => h) (Or.inl ⟨by rfl, ?_⟩) ?_ ?_
 rotate_left
 ·intro w'
  go_simp
  with_reducible rfl
 rotate_left
 ·simp only [Act.put, List.setIfInBounds_toArray, List.set_cons_zero, List.set_cons_succ, i64_w, i32_w]
  rfl
 refine pure_ (i := 4) (N := some 25) (v := ?_) (a' := ?_) #[tt_,tt_,tt_,tt_,tt_,ff_,ff_,ff_,ff_,ff_,ff_,ff_,ff_,ff_,ff_,ff_,ff_,ff_] rfl rfl (by kernel_rfl) (fun _ _ _ h => h) (Or.inl ⟨by rfl, ?_⟩) ?_ ?_
 rotate_left
 ·intro w'
  go_simp
  with_reducible rfl
 rotate_left
 ·simp only [Act.put, List.setIfInBounds_toArray, List.set_cons_zero, List.set_cons_succ, i64_w, i32_w]
  rfl
 refine pure_ (i := 5) (N := some 26) (v := ?_) (a' := ?_) #[tt_,tt_,tt_,tt_,tt_,tt_,ff_,ff_,ff_,ff_,ff_,ff_,ff_,ff_,ff_,ff_,ff_,ff_] rfl rfl (by kernel_rfl) (fun _ _ _ h => h) (Or.inl ⟨by rfl, ?_⟩) ?_ ?_
 rotate_left
 ·intro w'
  go_simp
  with_reducible rfl
 rotate_left
 ·simp only [Act.put, List.setIfInBounds_toArray, List.set_cons_zero, List.set_cons_succ, i64_w, i32_w]
  rfl
 refine pure_ (i := 7) (N := some 28) (v := ?_) (a' := ?_) #[tt_,tt_,tt_,tt_,tt_,tt_,ff_,tt_,ff_,ff_,ff_,ff_,ff_,ff_,ff_,ff_,ff_,ff_] rfl rfl (by kernel_rfl) (fun _ _ _ h => h) (Or.inl ⟨by rfl, ?_⟩) ?_ ?_
 rotate_left
 ·intro w'
  go_simp
  with_reducible rfl
 rotate_left
 ·simp only [Act.put, List.setIfInBounds_toArray, List.set_cons_zero, List.set_cons_succ, i64_w, i32_w]
  rfl
 refine take_ (i := 8) (N := some 29) (v := ?_) (a' := ?_) #[tt_,tt_,tt_,tt_,tt_,tt_,ff_,tt_,tt_,ff_,ff_,ff_,ff_,ff_,ff_,ff_,ff_,ff_] rfl rfl (by kernel_rfl) (fun _ _ _ h => h) (Or.inl ⟨by rfl, ?_⟩) hHeld ?_ ?_
 rotate_left
 ·rintro w' ⟨s0, s1⟩
  go_simp
  with_reducible rfl
 rotate_left
 ·simp only [Act.put, List.setIfInBounds_toArray, List.set_cons_zero, List.set_cons_succ, i64_w, i32_w]
  rfl
 refine one_ (i := 6) (N := some 27) #[tt_,tt_,tt_,tt_,tt_,tt_,tt_,tt_,tt_,ff_,ff_,ff_,ff_,ff_,ff_,ff_,ff_,ff_] rfl rfl (by kernel_rfl) (by decide) (fun K hK => ?_)
 refine goes_ Try.func45 (by kernel_rfl) rfl #[.int .i64 (wn : Int)] (by rfl) rfl rfl (by (try simp only [List.map_toArray, List.map_cons, List.map_nil]); rfl) ?_
 with_reducible refine (rHalf wn _ HWN.out).mono ?_
 rintro e w5 ⟨rfl, hb⟩
 refine ⟨_, rfl, ?_⟩
 have P5 := Aside0.mk (blk_below P4.out hb)
 have R5 := Aside0.mk (blk_below R4.out hb)
 have B5 := Aside0.mk (below_step B4.out hb)
 clear hb
 refine hK.out _ _ ⟨(blk_cell P5.out 0).trans rfl, (blk_cell P5.out 1).trans rfl⟩ (fun hHeld => ?_)
 clear hK K
 refine norm_ (a' := ?_) ?_ ?_
 rotate_left
 ·show Act.put _ (some 27) _ = _
  simp only [Act.put, List.setIfInBounds_toArray, List.set_cons_zero, List.set_cons_succ, i64_w, i32_w]
  rfl
 refine pure_ (i := 9) (N := some 30) (v := ?_) (a' := ?_) #[tt_,tt_,tt_,tt_,tt_,tt_,tt_,tt_,tt_,tt_,ff_,ff_,ff_,ff_,ff_,ff_,ff_,ff_] rfl rfl (by kernel_rfl) (fun _ _ _ h => h) (Or.inl ⟨by rfl, ?_⟩) ?_ ?_
 rotate_left
 ·intro w'
  go_simp
  with_reducible rfl
 rotate_left
 ·simp only [Act.put, List.setIfInBounds_toArray, List.set_cons_zero, List.set_cons_succ, i64_w, i32_w]
  rfl
 refine pure_ (i := 10) (N := some 31) (v := ?_) (a' := ?_) #[tt_,tt_,tt_,tt_,tt_,tt_,tt_,tt_,tt_,tt_,tt_,ff_,ff_,ff_,ff_,ff_,ff_,ff_] rfl rfl (by kernel_rfl) (fun _ _ _ h => h) (Or.inl ⟨by rfl, ?_⟩) ?_ ?_
 rotate_left
 ·intro w'
  go_simp
  with_reducible rfl
 rotate_left
 ·simp only [Act.put, List.setIfInBounds_toArray, List.set_cons_zero, List.set_cons_succ, i64_w, i32_w]
  rfl
 refine pure_ (i := 11) (N := some 32) (v := ?_) (a' := ?_) #[tt_,tt_,tt_,tt_,tt_,tt_,tt_,tt_,tt_,tt_,tt_,tt_,ff_,ff_,ff_,ff_,ff_,ff_] rfl rfl (by kernel_rfl) (fun _ _ _ h => h) (Or.inl ⟨by rfl, ?_⟩) ?_ ?_
 rotate_left
 ·intro w'
  go_simp
  with_reducible rfl
 rotate_left
 ·simp only [Act.put, List.setIfInBounds_toArray, List.set_cons_zero, List.set_cons_succ, i64_w, i32_w]
  rfl
 refine pure_ (i := 12) (N := some 33) (v := ?_) (a' := ?_) #[tt_,tt_,tt_,tt_,tt_,tt_,tt_,tt_,tt_,tt_,tt_,tt_,tt_,ff_,ff_,ff_,ff_,ff_] rfl rfl (by kernel_rfl) (fun _ _ _ h => h) (Or.inl ⟨by rfl, ?_⟩) ?_ ?_
 rotate_left
 ·intro w'
  go_simp
  with_reducible rfl
 rotate_left
 ·simp only [Act.put, List.setIfInBounds_toArray, List.set_cons_zero, List.set_cons_succ, i64_w, i32_w]
  rfl
 refine pure_ (i := 14) (N := some 35) (v := ?_) (a' := ?_) #[tt_,tt_,tt_,tt_,tt_,tt_,tt_,tt_,tt_,tt_,tt_,tt_,tt_,ff_,tt_,ff_,ff_,ff_] rfl rfl (by kernel_rfl) (fun _ _ _ h => h) (Or.inl ⟨by rfl, ?_⟩) ?_ ?_
 rotate_left
 ·intro w'
  go_simp
  with_reducible rfl
 rotate_left
 ·simp only [Act.put, List.setIfInBounds_toArray, List.set_cons_zero, List.set_cons_succ, i64_w, i32_w]
  rfl
 refine take_ (i := 15) (N := some 36) (v := ?_) (a' := ?_) #[tt_,tt_,tt_,tt_,tt_,tt_,tt_,tt_,tt_,tt_,tt_,tt_,tt_,ff_,tt_,tt_,ff_,ff_] rfl rfl (by kernel_rfl) (fun _ _ _ h => h) (Or.inl ⟨by rfl, ?_⟩) hHeld ?_ ?_
 rotate_left
 ·rintro w' ⟨s0, s1⟩
  go_simp
  with_reducible rfl
 rotate_left
 ·simp only [Act.put, List.setIfInBounds_toArray, List.set_cons_zero, List.set_cons_succ, i64_w, i32_w]
  rfl
 refine one_ (i := 13) (N := some 34) #[tt_,tt_,tt_,tt_,tt_,tt_,tt_,tt_,tt_,tt_,tt_,tt_,tt_,tt_,tt_,tt_,ff_,ff_] rfl rfl (by kernel_rfl) (by decide) (fun K hK => ?_)
 refine goes_ Try.func45 (by kernel_rfl) rfl #[.int .i64 (hn : Int)] (by rfl) rfl rfl (by (try simp only [List.map_toArray, List.map_cons, List.map_nil]); rfl) ?_
 with_reducible refine (rHalf hn _ HHN.out).mono ?_
 rintro e w6 ⟨rfl, hb⟩
 refine ⟨_, rfl, ?_⟩
 have P6 := Aside0.mk (blk_below P5.out hb)
 have R6 := Aside0.mk (blk_below R5.out hb)
 have B6 := Aside0.mk (below_step B5.out hb)
 clear hb
 refine hK.out _ _ ⟨(blk_cell P6.out 0).trans rfl, (blk_cell P6.out 1).trans rfl⟩ (fun hHeld => ?_)
 clear hK K
 refine norm_ (a' := ?_) ?_ ?_
 rotate_left
 ·show Act.put _ (some 34) _ = _
  simp only [Act.put, List.setIfInBounds_toArray, List.set_cons_zero, List.set_cons_succ, i64_w, i32_w]
  rfl
 refine pure_ (i := 16) (N := some 37) (v := ?_) (a' := ?_) #[tt_,tt_,tt_,tt_,tt_,tt_,tt_,tt_,tt_,tt_,tt_,tt_,tt_,tt_,tt_,tt_,tt_,ff_] rfl rfl (by kernel_rfl) (fun _ _ _ h => h) (Or.inl ⟨by rfl, ?_⟩) ?_ ?_
 rotate_left
 ·intro w'
  go_simp
  with_reducible rfl
 rotate_left
 ·simp only [Act.put, List.setIfInBounds_toArray, List.set_cons_zero, List.set_cons_succ, i64_w, i32_w]
  rfl
 refine pure_ (i := 17) (N := some 38) (v := ?_) (a' := ?_) #[tt_,tt_,tt_,tt_,tt_,tt_,tt_,tt_,tt_,tt_,tt_,tt_,tt_,tt_,tt_,tt_,tt_,tt_] rfl rfl (by kernel_rfl) (fun _ _ _ h => h) (Or.inl ⟨by rfl, ?_⟩) ?_ ?_
 rotate_left
 ·intro w'
  go_simp
  with_reducible rfl
 rotate_left
 ·simp only [Act.put, List.setIfInBounds_toArray, List.set_cons_zero, List.set_cons_succ, i64_w, i32_w]
  rfl
 refine done_ (by kernel_rfl) ?_
 clear hHeld
 go_wp2_with (first | ((with_reducible refine gate_store (p := 6) rfl ?_); refine storeP_event rfl rfl rfl gR 0 0 none 0 0 _ _ _ rfl rfl R6.out ?_; intro w7 hm_ hst_ hbl_; have R40 := Aside0.mk (hm_); have B40 := Aside0.mk (B6.out.trans (hbl_ _ GR.out)); clear hm_ hst_ hbl_))
 refine bodyPost_ret (results_ct rfl _ _ gR 25 #[.int .i64 0, .int .i64 0, .slice none 0 0] (0, 0) _ rfl R40.out Try.underlying25 rfl (by kernel_rfl)) rfl ?_
 exact ⟨rfl, B40.out⟩
end Go.Proofs.Ytodlgdpkadkjjaa.A
end
section
set_option linter.unusedVariables false
set_option linter.unusedSimpArgs false
namespace Go.Proofs.Ytodlgdpkadkjjaa.A
open Go.RowKit Go.Shelf Go.Proofs.YtodlgdpkadkjjaaW.PrintWords Go.Proofs.YtodlgdpkadkjjaaW.PrintLast Go.Proofs.YtodlgdpkadkjjaaW.PrintMore Go.Proofs.Ytodlgdpkadkjjaa.PPyramidLevels
set_option maxHeartbeats 8000000 in
set_option maxRecDepth 100000 in
theorem rExpand_ok (W H : Nat) (p : List Nat) (A : Option Addr) (n cap : Nat) (wn hn : Nat) (w : World) (hp : (Pl.mk W H p).ok) (hx : PL w A n cap p) (hS : 0 < wn ∧ 0 < hn ∧ wn ≤ 1024 ∧ hn ≤ 1024 ∧ wn * hn ≤ 65536) (hW : hf wn = W) (hH : hf hn = H) :
    Calls Try.prog 15 #[.agg #[.int .i64 (W : Int), .int .i64 (H : Int), .slice A n cap], .int .i64 (wn : Int), .int .i64 (hn : Int)] w fun e w' => ∃ v, e = .returned (.tuple #[.agg #[.int .i64 (wn : Int), .int .i64 (hn : Int), v], .int .i64 0]) ∧ (nat .u32).R 50 w' w.heap.size (fun _ => True) v (expS W H wn hn p) ∧ Below w.heap.size w w' := by
 have hu25 := Try.underlying25
 have HE : Aside0 (checkE (W : Int) (H : Int) n = 0) := ⟨by rw [← hx.2.2]; exact hp.checkE⟩
 have HPX : Aside0 (∀ i, gt p i < 4294967296) := ⟨hp.2.2.2.2.2.2⟩
 obtain ⟨p1, p2, p3, p4, p5, p6, p7⟩ := hp
 have p1 : 0 < W := p1
 have p2 : 0 < H := p2
 have p3 : W ≤ 1024 := p3
 have p4 : H ≤ 1024 := p4
 have p5 : W * H ≤ 65536 := p5
 have p6 : p.length = W * H := p6
 have HNL : Aside0 (n < 9223372036854775808) := ⟨by have := hx.2.2; omega⟩
 have HPN := Aside0.mk p6
 have HX := Aside0.mk hx
 have HWB : Aside0 (1 ≤ W ∧ W ≤ 1024) := ⟨⟨p1, p3⟩⟩
 have HHB : Aside0 (1 ≤ H ∧ H ≤ 1024) := ⟨⟨p2, p4⟩⟩
 have HFW := Aside0.mk hW
 have HFH := Aside0.mk hH
 have HSO : Aside0 (sizeB (wn : Int) (hn : Int) = true) := ⟨sizeB_nat hS.1 hS.2.1 hS.2.2.1 hS.2.2.2.1 hS.2.2.2.2⟩
 have HWN : Aside0 (wn ≤ 1024) := ⟨by omega⟩
 have HHN : Aside0 (hn ≤ 1024) := ⟨by omega⟩
 have t1 : (((hf wn : Nat) : Int) != (W : Int)) = false := by rw [bne_eq_false_iff_eq]; omega
 have t2 : (((hf hn : Nat) : Int) != (H : Int)) = false := by rw [bne_eq_false_iff_eq]; omega
 have hwb : 1 ≤ wn ∧ wn ≤ 1024 := by omega
 have hhb : 1 ≤ hn ∧ hn ≤ 1024 := by omega
 obtain ⟨kz, hK⟩ : ∃ kz, wn * hn = kz := ⟨_, rfl⟩
 have hKb : 0 < kz ∧ kz ≤ 65536 := by rw [← hK]; exact ⟨Nat.mul_pos hwb.1 hhb.1, hS.2.2.2.2⟩
 have HKK := Aside0.mk hK
 have HKB := Aside0.mk hKb
 have hwH : H * wn ≤ 1048576 := Nat.le_trans (Nat.mul_le_mul p4 (show wn ≤ 1024 by omega)) (by decide)
 have HWH := Aside0.mk hwH
 have hRS : expS W H wn hn p = resZ expandS W H wn hn p := rfl
 rw [hRS]
 have HRS : Aside0 (gridTo (cG expandS wn H (midZ expandS W H wn p)) wn (hn * wn) = resZ expandS W H wn hn p) := ⟨rRes expandS W H wn hn p p2⟩
 have HMD : Aside0 (gridTo (rF expandS W p) wn (H * wn) = midZ expandS W H wn p) := ⟨rMid expandS W H wn p p6⟩
 have HML : Aside0 (∀ i, gt (midZ expandS W H wn p) i < 4294967296) := ⟨gt_lt_of (by decide) (midZ_lt expandS expand_good W H wn p (lt_of_gt p7) p1 (by omega))⟩
 clear p1 p2 p5 p6 p7 hx hK hRS hwH hS hW hH
 go_enter Try.func15, Try.ntmps15
 go_upto_region 4 with (first | ((with_reducible refine gate_dst (N := 3) rfl ?_); refine box_event ?hg (N := 3) ?hd (cs := #[.int .i64 (W : Int), .int .i64 (H : Int), .slice A n cap]) (t := 25) ?hr ?_; (case hd => rfl); (case hg => rfl); (case hr => first | (go_simp; done) | (go_simp; rfl)); intro gP hg_ w1 hm_ hb_; have P1 := Aside0.mk (hm_); have B1 := Aside0.mk (hb_); clear hm_ hb_ hg_) | ((with_reducible refine gate_dst (N := 6) rfl ?_); refine box_event ?hg (N := 6) ?hd (cs := #[.int .i64 0, .int .i64 0, .slice none 0 0]) (t := 25) ?hr ?_; (case hd => rfl); (case hg => rfl); (case hr => first | (go_simp; done) | (go_simp; rfl)); intro gR hg_ w2 hm_ hb_; have R2 := Aside0.mk (hm_); have P2 := Aside0.mk (blk_below P1.out hb_); have B2 := Aside0.mk (below_step B1.out hb_); have GR := Aside0.mk (show w.heap.size ≤ gR by rw [hg_]; exact below_size B1.out); have p0 := (blk_cell P2.out 0).trans rfl; have p1 := (blk_cell P2.out 1).trans rfl; have p2 := (blk_cell P2.out 2).trans rfl; clear hm_ hb_ hg_ P1 B1) | (go_at_call 44; refine (rCheck_calls (W : Int) (H : Int) A n cap _ HNL.out).mono ?_; rw [HE.out]; rintro e w3 ⟨rfl, hb⟩; have P3 := Aside0.mk (blk_below P2.out hb); have R3 := Aside0.mk (blk_below R2.out hb); have B3 := Aside0.mk (below_step B2.out hb); clear hb p0 p1 p2))
 have P4 := Aside0.mk (blk_drew P3.out)
 have R4 := Aside0.mk (blk_drew R3.out)
 have B4 : Aside0 (Below w.heap.size w w3.drew) := ⟨below_drew1 B3.out⟩
 clear P3 R3 B3
 refine start_ (n := 18) (S := fun w' => w'.cell? ⟨gP, 0, none⟩ = some (.int .i64 (W : Int)) ∧ w'.cell? ⟨gP, 1, none⟩ = some (.int .i64 (H : Int))) (ds := []) #[ff_,ff_,ff_,ff_,ff_,ff_,ff_,ff_,ff_,ff_,ff_,ff_,ff_,ff_,ff_,ff_,ff_,ff_] (by kernel_rfl) rfl rfl ⟨(blk_cell P4.out 0).trans rfl, (blk_cell P4.out 1).trans rfl⟩ (fun hHeld => ?_)
 generalize w3.drew = w4 at *
 refine pure_ (i := 0) (N := some 21) (v := ?_) (a' := ?_) #[tt_,ff_,ff_,ff_,ff_,ff_,ff_,ff_,ff_,ff_,ff_,ff_,ff_,ff_,ff_,ff_,ff_,ff_] rfl rfl (by kernel_rfl) (fun _ _ _ h => h) (Or.inl ⟨by rfl, ?_⟩) ?_ ?_
 rotate_left
 ·intro w'
  go_simp
  with_reducible rfl
 rotate_left
 ·simp only [Act.put, List.setIfInBounds_toArray, List.set_cons_zero, List.set_cons_succ, i64_w, i32_w]
  rfl
 refine pure_ (i := 1) (N := some 22) (v := ?_) (a' := ?_) #[tt_,tt_,ff_,ff_,ff_,ff_,ff_,ff_,ff_,ff_,ff_,ff_,ff_,ff_,ff_,ff_,ff_,ff_] rfl rfl (by kernel_rfl) (fun _ _ _ h => h) (Or.inl ⟨by rfl, ?_⟩) ?_ ?_
 rotate_left
 ·intro w'
  go_simp
  with_reducible rfl
 rotate_left
 ·simp only [Act.put, List.setIfInBounds_toArray, List.set_cons_zero, List.set_cons_succ, i64_w, i32_w]
  rfl
 refine one_ (i := 2) (N := some 23) #[tt_,tt_,tt_,ff_,ff_,ff_,ff_,ff_,ff_,ff_,ff_,ff_,ff_,ff_,ff_,ff_,ff_,ff_] rfl rfl (by kernel_rfl) (by decide) (fun K hK => ?_)
 refine goes_ Try.func49 (by kernel_rfl) rfl #[.int .i64 (wn : Int), .int .i64 (hn : Int)] (by rfl) rfl rfl (by (try simp only [List.map_toArray, List.map_cons, List.map_nil]); rfl) ?_
 with_reducible refine (rSize_calls (wn : Int) (hn : Int) _).mono ?_
 rw [HSO.out]
 rintro e _ ⟨rfl, rfl⟩
 refine ⟨_, rfl, ?_⟩
 refine hK.out _ _ ⟨(blk_cell P4.out 0).trans rfl, (blk_cell P4.out 1).trans rfl⟩ (fun hHeld => ?_)
 clear hK K
 refine norm_ (a' := ?_) ?_ ?_
 rotate_left
 ·show Act.put _ (some 23) _ = _
  simp only [Act.put, List.setIfInBounds_toArray, List.set_cons_zero, List.set_cons_succ, i64_w, i32_w]
  rfl
 refine pure_ (i := 3) (N := some 24) (v := ?_) (a' := ?_) #[tt_,tt_,tt_,tt_,ff_,ff_,ff_,ff_,ff_,ff_,ff_,ff_,ff_,ff_,ff_,ff_,ff_,ff_] rfl rfl (by kernel_rfl) (fun _ _ _ h => h) (Or.inl ⟨by rfl, ?_⟩) ?_ ?_
 rotate_left
 ·intro w'
  go_simp
  with_reducible rfl
 rotate_left
 ·simp only [Act.put, List.setIfInBounds_toArray, List.set_cons_zero, List.set_cons_succ, i64_w, i32_w]
  rfl
 refine pure_ (i := 4) (N := some 25) (v := ?_) (a' := ?_) #[tt_,tt_,tt_,tt_,tt_,ff_,ff_,ff_,ff_,ff_,ff_,ff_,ff_,ff_,ff_,ff_,ff_,ff_] rfl rfl (by kernel_rfl) (fun _ _ _ h => h) (Or.inl ⟨by rfl, ?_⟩) ?_ ?_
 rotate_left
 ·intro w'
  go_simp
  with_reducible rfl
 rotate_left
 ·simp only [Act.put, List.setIfInBounds_toArray, List.set_cons_zero, List.set_cons_succ, i64_w, i32_w]
  rfl
 refine pure_ (i := 5) (N := some 26) (v := ?_) (a' := ?_) #[tt_,tt_,tt_,tt_,tt_,tt_,ff_,ff_,ff_,ff_,ff_,ff_,ff_,ff_,ff_,ff_,ff_,ff_] rfl rfl (by kernel_rfl) (fun _ _ _ h => h) (Or.inl ⟨by rfl, ?_⟩) ?_ ?_
 rotate_left
 ·intro w'
  go_simp
  with_reducible rfl
 rotate_left
 ·simp only [Act.put, List.setIfInBounds_toArray, List.set_cons_zero, List.set_cons_succ, i64_w, i32_w]
  rfl
 refine pure_ (i := 7) (N := some 28) (v := ?_) (a' := ?_) #[tt_,tt_,tt_,tt_,tt_,tt_,ff_,tt_,ff_,ff_,ff_,ff_,ff_,ff_,ff_,ff_,ff_,ff_] rfl rfl (by kernel_rfl) (fun _ _ _ h => h) (Or.inl ⟨by rfl, ?_⟩) ?_ ?_
 rotate_left
 ·intro w'
  go_simp
  with_reducible rfl
 rotate_left
 ·simp only [Act.put, List.setIfInBounds_toArray, List.set_cons_zero, List.set_cons_succ, i64_w, i32_w]
  rfl
 refine take_ (i := 8) (N := some 29) (v := ?_) (a' := ?_) #[tt_,tt_,tt_,tt_,tt_,tt_,ff_,tt_,tt_,ff_,ff_,ff_,ff_,ff_,ff_,ff_,ff_,ff_] rfl rfl (by kernel_rfl) (fun _ _ _ h => h) (Or.inl ⟨by rfl, ?_⟩) hHeld ?_ ?_
 rotate_left
 ·rintro w' ⟨s0, s1⟩
  go_simp
  with_reducible rfl
 rotate_left
 ·simp only [Act.put, List.setIfInBounds_toArray, List.set_cons_zero, List.set_cons_succ, i64_w, i32_w]
  rfl
 refine one_ (i := 6) (N := some 27) #[tt_,tt_,tt_,tt_,tt_,tt_,tt_,tt_,tt_,ff_,ff_,ff_,ff_,ff_,ff_,ff_,ff_,ff_] rfl rfl (by kernel_rfl) (by decide) (fun K hK => ?_)
 refine goes_ Try.func45 (by kernel_rfl) rfl #[.int .i64 (wn : Int)] (by rfl) rfl rfl (by (try simp only [List.map_toArray, List.map_cons, List.map_nil]); rfl) ?_
 with_reducible refine (rHalf wn _ HWN.out).mono ?_
 rintro e w5 ⟨rfl, hb⟩
 refine ⟨_, rfl, ?_⟩
 have P5 := Aside0.mk (blk_below P4.out hb)
 have R5 := Aside0.mk (blk_below R4.out hb)
 have B5 := Aside0.mk (below_step B4.out hb)
 clear hb
 refine hK.out _ _ ⟨(blk_cell P5.out 0).trans rfl, (blk_cell P5.out 1).trans rfl⟩ (fun hHeld => ?_)
 clear hK K
 refine norm_ (a' := ?_) ?_ ?_
 rotate_left
 ·show Act.put _ (some 27) _ = _
  simp only [Act.put, List.setIfInBounds_toArray, List.set_cons_zero, List.set_cons_succ, i64_w, i32_w]
  rfl
 refine pure_ (i := 9) (N := some 30) (v := ?_) (a' := ?_) #[tt_,tt_,tt_,tt_,tt_,tt_,tt_,tt_,tt_,tt_,ff_,ff_,ff_,ff_,ff_,ff_,ff_,ff_] rfl rfl (by kernel_rfl) (fun _ _ _ h => h) (Or.inl ⟨by rfl, ?_⟩) ?_ ?_
 rotate_left
 ·intro w'
  go_simp
  with_reducible rfl
 rotate_left
 ·simp only [Act.put, List.setIfInBounds_toArray, List.set_cons_zero, List.set_cons_succ, i64_w, i32_w]
  rfl
 refine pure_ (i := 10) (N := some 31) (v := ?_) (a' := ?_) #[tt_,tt_,tt_,tt_,tt_,tt_,tt_,tt_,tt_,tt_,tt_,ff_,ff_,ff_,ff_,ff_,ff_,ff_] rfl rfl (by kernel_rfl) (fun _ _ _ h => h) (Or.inl ⟨by rfl, ?_⟩) ?_ ?_
 rotate_left
 ·intro w'
  go_simp
  with_reducible rfl
 rotate_left
 ·simp only [Act.put, List.setIfInBounds_toArray, List.set_cons_zero, List.set_cons_succ, i64_w, i32_w]
  rfl
 refine pure_ (i := 11) (N := some 32) (v := ?_) (a' := ?_) #[tt_,tt_,tt_,tt_,tt_,tt_,tt_,tt_,tt_,tt_,tt_,tt_,ff_,ff_,ff_,ff_,ff_,ff_] rfl rfl (by kernel_rfl) (fun _ _ _ h => h) (Or.inl ⟨by rfl, ?_⟩) ?_ ?_
 rotate_left
 ·intro w'
  go_simp
  with_reducible rfl
 rotate_left
 ·simp only [Act.put, List.setIfInBounds_toArray, List.set_cons_zero, List.set_cons_succ, i64_w, i32_w]
  rfl
 refine pure_ (i := 12) (N := some 33) (v := ?_) (a' := ?_) #[tt_,tt_,tt_,tt_,tt_,tt_,tt_,tt_,tt_,tt_,tt_,tt_,tt_,ff_,ff_,ff_,ff_,ff_] rfl rfl (by kernel_rfl) (fun _ _ _ h => h) (Or.inl ⟨by rfl, ?_⟩) ?_ ?_
 rotate_left
 ·intro w'
  go_simp
  with_reducible rfl
 rotate_left
 ·simp only [Act.put, List.setIfInBounds_toArray, List.set_cons_zero, List.set_cons_succ, i64_w, i32_w]
  rfl
 refine pure_ (i := 14) (N := some 35) (v := ?_) (a' := ?_) #[tt_,tt_,tt_,tt_,tt_,tt_,tt_,tt_,tt_,tt_,tt_,tt_,tt_,ff_,tt_,ff_,ff_,ff_] rfl rfl (by kernel_rfl) (fun _ _ _ h => h) (Or.inl ⟨by rfl, ?_⟩) ?_ ?_
 rotate_left
 ·intro w'
  go_simp
  with_reducible rfl
 rotate_left
 ·simp only [Act.put, List.setIfInBounds_toArray, List.set_cons_zero, List.set_cons_succ, i64_w, i32_w]
  rfl
 refine take_ (i := 15) (N := some 36) (v := ?_) (a' := ?_) #[tt_,tt_,tt_,tt_,tt_,tt_,tt_,tt_,tt_,tt_,tt_,tt_,tt_,ff_,tt_,tt_,ff_,ff_] rfl rfl (by kernel_rfl) (fun _ _ _ h => h) (Or.inl ⟨by rfl, ?_⟩) hHeld ?_ ?_
 rotate_left
 ·rintro w' ⟨s0, s1⟩
  go_simp
  with_reducible rfl
 rotate_left
 ·simp only [Act.put, List.setIfInBounds_toArray, List.set_cons_zero, List.set_cons_succ, i64_w, i32_w]
  rfl
 refine one_ (i := 13) (N := some 34) #[tt_,tt_,tt_,tt_,tt_,tt_,tt_,tt_,tt_,tt_,tt_,tt_,tt_,tt_,tt_,tt_,ff_,ff_] rfl rfl (by kernel_rfl) (by decide) (fun K hK => ?_)
 refine goes_ Try.func45 (by kernel_rfl) rfl #[.int .i64 (hn : Int)] (by rfl) rfl rfl (by (try simp only [List.map_toArray, List.map_cons, List.map_nil]); rfl) ?_
 with_reducible refine (rHalf hn _ HHN.out).mono ?_
 rintro e w6 ⟨rfl, hb⟩
 refine ⟨_, rfl, ?_⟩
 have P6 := Aside0.mk (blk_below P5.out hb)
 have R6 := Aside0.mk (blk_below R5.out hb)
 have B6 := Aside0.mk (below_step B5.out hb)
 clear hb
 refine hK.out _ _ ⟨(blk_cell P6.out 0).trans rfl, (blk_cell P6.out 1).trans rfl⟩ (fun hHeld => ?_)
 clear hK K
 refine norm_ (a' := ?_) ?_ ?_
 rotate_left
 ·show Act.put _ (some 34) _ = _
  simp only [Act.put, List.setIfInBounds_toArray, List.set_cons_zero, List.set_cons_succ, i64_w, i32_w]
  rfl
 refine pure_ (i := 16) (N := some 37) (v := ?_) (a' := ?_) #[tt_,tt_,tt_,tt_,tt_,tt_,tt_,tt_,tt_,tt_,tt_,tt_,tt_,tt_,tt_,tt_,tt_,ff_] rfl rfl (by kernel_rfl) (fun _ _ _ h => h) (Or.inl ⟨by rfl, ?_⟩) ?_ ?_
 rotate_left
 ·intro w'
  go_simp
  with_reducible rfl
 rotate_left
 ·simp only [Act.put, List.setIfInBounds_toArray, List.set_cons_zero, List.set_cons_succ, i64_w, i32_w]
  rfl
 refine pure_ (i := 17) (N := some 38) (v := ?_) (a' := ?_) #[tt_,tt_,tt_,tt_,tt_,tt_,tt_,tt_,tt_,tt_,tt_,tt_,tt_,tt_,tt_,tt_,tt_,tt_] rfl rfl (by kernel_rfl) (fun _ _ _ h => h) (Or.inl ⟨by rfl, ?_⟩) ?_ ?_
 rotate_left
 ·intro w'
  go_simp
  with_reducible rfl
 rotate_left
 ·simp only [Act.put, List.setIfInBounds_toArray, List.set_cons_zero, List.set_cons_succ, i64_w, i32_w]
  rfl
 refine done_ (by kernel_rfl) ?_
 clear hHeld
 have p1 := (blk_cell P6.out 1).trans rfl
 go_wp2_with (first | ((with_reducible refine gate_dst (N := 9) rfl ?_); refine box_event ?hg (N := 9) ?hd (cs := #[.int .i64 0, .int .i64 0, .slice none 0 0]) (t := 25) ?hr ?_; (case hd => rfl); (case hg => rfl); (case hr => first | (go_simp; done) | (go_simp; rfl)); intro gT hg_ w7 hm_ hb_; have Z7 := Aside0.mk (hm_); have BB7 := Aside0.mk (hb_); have GT := Aside0.mk (show w6.heap.size ≤ gT by rw [hg_]; exact Nat.le_refl _); clear p1; clear hm_ hb_ hg_) | ((with_reducible refine gate_store (p := 9) rfl ?_); refine storeP_event rfl rfl rfl gT (wn : Int) (H : Int) none 0 0 _ _ _ rfl rfl Z7.out ?_; intro w8 hm_ hst_ hbl_; have T8 := Aside0.mk (hm_); have B8 := Aside0.mk (BB7.out.trans (hbl_ _ GT.out)); clear hm_ hst_ hbl_))
 have X4 := Aside0.mk (HX.out.below B6.out)
 have HI0 : Aside0 (M2 w6 gT wn H w8 (.slice none 0 0) []) := ⟨⟨Kd.R_nil _ _ _ _ _, T8.out, B8.out⟩⟩
 obtain ⟨v0, hv0⟩ : ∃ v0, v0 = Value.slice none 0 0 := ⟨_, rfl⟩
 obtain ⟨xs0, hxs0⟩ : ∃ xs0 : List Nat, xs0 = [] := ⟨_, rfl⟩
 rw [← hv0, ← hxs0] at HI0
 have HX0 : Aside0 (xs0 = gridTo (rF expandS W p) wn (0 * wn)) := ⟨by rw [hxs0, Nat.zero_mul]; rfl⟩
 clear hv0 hxs0 T8 B8 Z7 BB7 P4 R4 B4 P5 R5 B5
 go_loopw [10] (fun yv wr => ∃ (y : Nat) (v : Value) (xs : List Nat), y ≤ H ∧ yv = .int .i64 (y : Int) ∧ Aside0 (xs = gridTo (rF expandS W p) wn (y * wn)) ∧ Aside0 (M2 w6 gT wn H wr v xs)) (fun yv _ => H - (intOf yv).toNat)
 case atStart => exact ⟨0, v0, xs0, Nat.zero_le _, rfl, HX0, HI0⟩
 case round =>
  clear HI0 HX0
  obtain ⟨y, v, xs, hy, rfl, HXY, HM⟩ := hrel
  have p1 := (blk_cell (blk_below P6.out HM.out.2.2) 1).trans rfl
  by_cases hlt : y < H
  ·have c1 : decide ((y : Int) < (H : Int)) = true := decide_eq_true (by omega)
   have HLT := Aside0.mk hlt
   obtain ⟨ro, hro⟩ : ∃ ro, dbl (rowOf p W y) W wn = ro := ⟨_, rfl⟩
   have HRO := Aside0.mk hro
   have HRL : Aside0 (∀ i, gt (rowOf p W y) i < 4294967296) := ⟨map_lt W (fun i => HPX.out _)⟩
   obtain ⟨xs', hxs'⟩ : ∃ xs', xs ++ ro = xs' := ⟨_, rfl⟩
   have HXA := Aside0.mk hxs'
   have HXS : Aside0 (xs' = gridTo (rF expandS W p) wn ((y + 1) * wn)) := ⟨by rw [← hxs', HXY.out, ← hro]; exact gridTo_row (rF expandS W p) wn y⟩
   have HXN : Aside0 ((xs.length + wn) * 4 ≤ 140737488355328) := ⟨by
    rw [HXY.out, gridTo_length]
    have h1 : y * wn + wn ≤ H * wn := by rw [← Nat.succ_mul]; exact Nat.mul_le_mul_right wn hlt
    have h9 := HWH.out
    omega⟩
   obtain ⟨A3, c3, hv, hc3, hC3⟩ := Kd.R_reads HM.out.1
   obtain ⟨n3, hn3⟩ : ∃ n3, xs.length = n3 := ⟨_, rfl⟩
   rw [hn3] at hv
   subst hv
   have V30 := Aside0.mk (Kd.R_drew HM.out.1)
   have T30 := Aside0.mk (blk_drew HM.out.2.1)
   have BT30 := Aside0.mk (below_drew HM.out.2.2)
   clear hro hxs' hc3 hC3 hn3 HM
   go_upto_region 10 with (fail)
   refine start_ (n := 10) (S := fun w' => w'.cell? ⟨gT, 2, none⟩ = some (.slice A3 n3 c3) ∧ w'.cell? ⟨gP, 0, none⟩ = some (.int .i64 (W : Int)) ∧ w'.cell? ⟨gP, 1, none⟩ = some (.int .i64 (H : Int)) ∧ w'.cell? ⟨gP, 2, none⟩ = some (.slice A n cap)) (ds := [7, 9]) #[ff_,ff_,ff_,ff_,ff_,ff_,ff_,ff_,ff_,ff_] (by kernel_rfl) rfl rfl ⟨(blk_cell T30.out 2).trans rfl, (blk_cell (blk_below P6.out BT30.out) 0).trans rfl, (blk_cell (blk_below P6.out BT30.out) 1).trans rfl, (blk_cell (blk_below P6.out BT30.out) 2).trans rfl⟩ (fun hHeld => ?_)
   generalize wr.drew = w30 at *
   refine pure_ (i := 0) (N := some 50) (v := ?_) (a' := ?_) #[tt_,ff_,ff_,ff_,ff_,ff_,ff_,ff_,ff_,ff_] rfl rfl (by kernel_rfl) (fun _ _ _ h => h) (Or.inl ⟨by rfl, ?_⟩) ?_ ?_
   rotate_left
   ·intro w'
    go_simp
    with_reducible rfl
   rotate_left
   ·simp only [Act.put, List.setIfInBounds_toArray, List.set_cons_zero, List.set_cons_succ, i64_w, i32_w]
    rfl
   refine pure_ (i := 3) (N := some 53) (v := ?_) (a' := ?_) #[tt_,ff_,ff_,tt_,ff_,ff_,ff_,ff_,ff_,ff_] rfl rfl (by kernel_rfl) (fun _ _ _ h => h) (Or.inl ⟨by rfl, ?_⟩) ?_ ?_
   rotate_left
   ·intro w'
    go_simp
    with_reducible rfl
   rotate_left
   ·simp only [Act.put, List.setIfInBounds_toArray, List.set_cons_zero, List.set_cons_succ, i64_w, i32_w]
    rfl
   refine pure_ (i := 5) (N := some 55) (v := ?_) (a' := ?_) #[tt_,ff_,ff_,tt_,ff_,tt_,ff_,ff_,ff_,ff_] rfl rfl (by kernel_rfl) (fun _ _ _ h => h) (Or.inl ⟨by rfl, ?_⟩) ?_ ?_
   rotate_left
   ·intro w'
    go_simp
    with_reducible rfl
   rotate_left
   ·simp only [Act.put, List.setIfInBounds_toArray, List.set_cons_zero, List.set_cons_succ, i64_w, i32_w]
    rfl
   refine take_ (i := 1) (N := some 51) (v := ?_) (a' := ?_) #[tt_,tt_,ff_,tt_,ff_,tt_,ff_,ff_,ff_,ff_] rfl rfl (by kernel_rfl) (fun _ _ _ h => h) (Or.inl ⟨by rfl, ?_⟩) hHeld ?_ ?_
   rotate_left
   ·rintro w' ⟨s0, s1, s2, s3⟩
    go_simp
    with_reducible rfl
   rotate_left
   ·simp only [Act.put, List.setIfInBounds_toArray, List.set_cons_zero, List.set_cons_succ, i64_w, i32_w]
    rfl
   refine take_ (i := 2) (N := some 52) (v := ?_) (a' := ?_) #[tt_,tt_,tt_,tt_,ff_,tt_,ff_,ff_,ff_,ff_] rfl rfl (by kernel_rfl) (fun _ _ _ h => h) (Or.inl ⟨by rfl, ?_⟩) hHeld ?_ ?_
   rotate_left
   ·rintro w' ⟨s0, s1, s2, s3⟩
    go_simp
    with_reducible rfl
   rotate_left
   ·simp only [Act.put, List.setIfInBounds_toArray, List.set_cons_zero, List.set_cons_succ, i64_w, i32_w]
    rfl
   refine one_ (i := 4) (N := some 54) #[tt_,tt_,tt_,tt_,tt_,tt_,ff_,ff_,ff_,ff_] rfl rfl (by kernel_rfl) (by decide) (fun K hK => ?_)
   refine goes_ Try.func47 (by kernel_rfl) rfl #[.agg #[.int .i64 (W : Int), .int .i64 (H : Int), .slice A n cap], .bool false, .int .i64 (y : Int)] (by rfl) rfl rfl (by (try simp only [List.map_toArray, List.map_cons, List.map_nil]); rfl) ?_
   refine (rRow_calls (X4.out.below BT30.out) HLT.out HWB.out.2 HHB.out.2 HPN.out).mono ?_
   rintro e w31 ⟨A31, c31, rfl, hL, hb⟩
   refine ⟨_, rfl, ?_⟩
   have T31 := Aside0.mk (blk_below T30.out hb)
   have BT31 := Aside0.mk (below_step BT30.out hb)
   have V31 := Aside0.mk (Kd.R_below V30.out hb)
   have L31 := Aside0.mk (hL)
   clear hb hL
   refine hK.out _ _ ⟨(blk_cell T31.out 2).trans rfl, (blk_cell (blk_below P6.out BT31.out) 0).trans rfl, (blk_cell (blk_below P6.out BT31.out) 1).trans rfl, (blk_cell (blk_below P6.out BT31.out) 2).trans rfl⟩ (fun hHeld => ?_)
   clear hK K
   refine norm_ (a' := ?_) ?_ ?_
   rotate_left
   ·show Act.put _ (some 54) _ = _
    simp only [Act.put, List.setIfInBounds_toArray, List.set_cons_zero, List.set_cons_succ, i64_w, i32_w]
    rfl
   refine one_ (i := 6) (N := some 56) #[tt_,tt_,tt_,tt_,tt_,tt_,tt_,ff_,ff_,ff_] rfl rfl (by kernel_rfl) (by decide) (fun K hK => ?_)
   refine goes_ Try.func50 (by kernel_rfl) rfl #[.slice A31 W c31, .int .i64 (wn : Int)] (by rfl) rfl rfl (by (try simp only [List.map_toArray, List.map_cons, List.map_nil]); rfl) ?_
   refine (rDoubled L31.out HWB.out HFW.out HWN.out HRL.out).mono ?_
   rw [HRO.out]
   rintro e w32 ⟨A32, c32, rfl, hR, hL, hb⟩
   refine ⟨_, rfl, ?_⟩
   have T32 := Aside0.mk (blk_below T31.out hb)
   have BT32 := Aside0.mk (below_step BT31.out hb)
   have V32 := Aside0.mk (Kd.R_below V31.out hb)
   have L32 := Aside0.mk (hL)
   clear hb hL hR
   refine hK.out _ _ ⟨(blk_cell T32.out 2).trans rfl, (blk_cell (blk_below P6.out BT32.out) 0).trans rfl, (blk_cell (blk_below P6.out BT32.out) 1).trans rfl, (blk_cell (blk_below P6.out BT32.out) 2).trans rfl⟩ (fun hHeld => ?_)
   clear hK K
   refine norm_ (a' := ?_) ?_ ?_
   rotate_left
   ·show Act.put _ (some 56) _ = _
    simp only [Act.put, List.setIfInBounds_toArray, List.set_cons_zero, List.set_cons_succ, i64_w, i32_w]
    rfl
   refine last_ (i := 7) (N := some 57) #[tt_,tt_,tt_,tt_,tt_,tt_,tt_,tt_,ff_,ff_] rfl rfl (by kernel_rfl) (by decide) (fun K hK => ?_)
   refine Kd.R_append_rows_step (nat .u32) (Rr := (nat .u32).K w32) (w0 := w6) w6.heap.size (by rfl) (.tmp 51) (.tmp 56) 23 50 (.int .u32 0) 4 rfl Try.underlying23 info50 rfl (by decide) (by omega) (.slice A3 n3 c3) xs ro A32 wn c32 (fun _ => True) (fun _ => False) rfl rfl V32.out ?aR (fun x cs h => h) (fun _ h => h.elim) (fun _ _ => trivial) BT32.out BT32.out.size HXN.out ?_
   (case aR => exact L32.out.1)
   intro v7 w7 hR1 hB1 hg1 hat1
   rw [HXA.out] at hR1
   obtain ⟨A7, c7, hv7⟩ := Kd.R_slice hR1
   obtain ⟨n7, hn7⟩ : ∃ n7, xs'.length = n7 := ⟨_, rfl⟩
   rw [hn7] at hv7
   subst hv7
   have V7 := Aside0.mk (hR1)
   have BT7 := Aside0.mk (hB1)
   have T7 := Aside0.mk (blk_grown T32.out hg1 (Kd.R_ne V32.out T32.out (by decide)))
   clear hR1 hB1 hg1 hat1 hn7
   have q2 := (blk_cell T7.out 2).trans rfl
   have fr2 := blk_frozen T7.out 2
   refine hK.out _ _ ?_
   clear hK K
   refine norm_ (a' := ?_) ?_ ?_
   rotate_left
   ·show Act.put _ (some 57) _ = _
    simp only [Act.put, List.setIfInBounds_toArray, List.set_cons_zero, List.set_cons_succ, i64_w, i32_w]
    rfl
   refine pure_ (i := 8) (N := some 58) (v := ?_) (a' := ?_) #[tt_,tt_,tt_,tt_,tt_,tt_,tt_,tt_,tt_,ff_] rfl rfl (by kernel_rfl) (fun _ _ _ h => h) (Or.inl ⟨by rfl, ?_⟩) ?_ ?_
   rotate_left
   ·intro w'
    go_simp
    with_reducible rfl
   rotate_left
   ·simp only [Act.put, List.setIfInBounds_toArray, List.set_cons_zero, List.set_cons_succ, i64_w, i32_w]
    rfl
   refine last_ (i := 9) (N := none) #[tt_,tt_,tt_,tt_,tt_,tt_,tt_,tt_,tt_,tt_] rfl rfl (by kernel_rfl) (by decide) (fun K hK => ?_)
   refine skip_ (w1 := ?_) (by rfl) rfl ?_ ?_
   rotate_left
   ·go_simp
    rfl
   refine hK.out _ _ ?_
   clear hK K
   refine done_ (by kernel_rfl) ?_
   clear hHeld
   obtain ⟨w10, hw10⟩ : ∃ w10, w10 = w7.setCell ⟨gT, 2, none⟩ (.slice A7 n7 c7) := ⟨_, rfl⟩
   rw [← hw10]
   have P10 : w10.heap[gT]? = some (.cells #[.int .i64 (wn : Int), .int .i64 (H : Int), .slice A7 n7 c7] 25 (0, 0)) := by rw [hw10]; exact (blk_set T7.out 2 _).trans rfl
   have st10 : ∀ k, k ≠ gT → w10.heap[k]? = w7.heap[k]? := by rw [hw10]; exact fun k hk => Below.heap_setCell _ _ _ k hk
   have R10 : (nat .u32).R 50 w10 w6.heap.size (fun _ => True) (.slice A7 n7 c7) xs' := Kd.R_mono (Kd.R_move (Kd.R_types V7.out T7.out (by decide)) (fun k hk => st10 k hk.2)) (fun _ _ => trivial)
   have B10 : Below w6.heap.size w6 w10 := by rw [hw10]; exact BT7.out.setCell (p := ⟨gT, 2, none⟩) GT.out _
   have HJ : Aside0 (M2 w6 gT wn H w10 (.slice A7 n7 c7) xs') := ⟨R10, P10, B10⟩
   clear hw10 P10 st10 R10 B10
   go_wp2
   go_roundw
   case measure => simp [intOf]; omega
   case rel => exact ⟨y + 1, _, xs', by omega, by go_num, HXS, HJ⟩
  ·obtain rfl : H = y := by omega
   have c1 : decide ((H : Int) < (H : Int)) = false := decide_eq_false (by omega)
   obtain ⟨mid, hmid⟩ : ∃ mid, midZ expandS W H wn p = mid := ⟨_, rfl⟩
   have hxm : xs = mid := by rw [HXY.out, HMD.out, hmid]
   have hml : mid.length = wn * H := by rw [← hmid, midZ_length, Nat.mul_comm]
   obtain ⟨A5, n5, c5, hv, hL5⟩ := PL.of HM.out.1
   subst hv
   subst hxm
   rw [hmid] at HRS HML
   have P20 := Aside0.mk (blk_below P6.out HM.out.2.2)
   have R20 := Aside0.mk (blk_below R6.out HM.out.2.2)
   have T20 := Aside0.mk HM.out.2.1
   have B20 := Aside0.mk (below_step B6.out HM.out.2.2)
   have LM := Aside0.mk hL5
   have HMN := Aside0.mk hml
   have HWB2 := Aside0.mk hwb
   clear hmid hml hL5 HM HXY
   generalize wr = w20 at *
   go_wp2_with (first | (go_at_call 48; refine (rBlank_calls _ (by rw [HKK.out]; exact HKB.out.2)).mono ?_; rintro e w23 ⟨v9, rfl, hR, hb⟩; obtain ⟨go, co, hv9, hgo, hlt9, hty9⟩ := Kd.R_form hR (by rw [List.length_replicate, HKK.out]; exact HKB.out.1); rw [List.length_replicate, HKK.out] at hv9; subst hv9; have BR23 := Aside0.mk (hb); have V23 := Aside0.mk (hR); have GO := Aside0.mk (hgo); clear hR hgo hlt9 hty9 hb p1) | ((with_reducible refine gate_dst (N := 11) rfl ?_); refine box_event ?hg (N := 11) ?hd (cs := #[.int .i64 0, .int .i64 0, .slice none 0 0]) (t := 25) ?hr ?_; (case hd => rfl); (case hg => rfl); (case hr => first | (go_simp; done) | (go_simp; rfl)); intro gO hg_ w24 hm_ hb_; have Z24 := Aside0.mk (hm_); have BR24 := Aside0.mk (below_step BR23.out hb_); have V24 := Aside0.mk (Kd.R_below V23.out hb_); have GE := Aside0.mk (show w20.heap.size ≤ gO by rw [hg_]; exact BR23.out.size); clear hm_ hb_ hg_) | ((with_reducible refine gate_store (p := 11) rfl ?_); refine storeP_event rfl rfl rfl gO (wn : Int) (hn : Int) (some ⟨go, 0, none⟩) kz co _ _ _ rfl rfl Z24.out ?_; intro w21 hm_ hst_ hbl_; have M21 := Aside0.mk (show M3 w20 gO wn hn go kz co w21 (List.replicate (wn * hn) 0) from ⟨Kd.R_mono (Kd.R_move (Kd.R_types V24.out Z24.out (by decide)) (fun k hk => hst_ k hk.2)) (fun _ _ => trivial), hm_, BR24.out.trans (hbl_ _ GE.out)⟩); clear hm_ hst_ hbl_))

   have HD0 : Aside0 (Done (cG expandS wn H xs) wn hn 0 0 (List.replicate (wn * hn) 0)) := ⟨Done.zero _ _ _⟩
   obtain ⟨L0, hL0⟩ : ∃ L0, List.replicate (wn * hn) 0 = L0 := ⟨_, rfl⟩
   rw [hL0] at HD0 M21
   obtain ⟨G, hG⟩ : ∃ G, cG expandS wn H xs = G := ⟨_, rfl⟩
   have HGG := Aside0.mk hG
   rw [hG] at HD0 HRS
   clear hL0 hG V23 V24 Z24 BR23 BR24
   go_loopw [12] (fun xv wr => ∃ (x : Nat) (L : List Nat), x ≤ wn ∧ xv = .int .i64 (x : Int) ∧ Aside0 (Done G wn hn x 0 L) ∧ Aside0 (M3 w20 gO wn hn go kz co wr L)) (fun xv _ => wn - (intOf xv).toNat)
   case atStart => exact ⟨0, L0, Nat.zero_le _, rfl, HD0, M21⟩
   case round =>
    clear HD0 M21
    obtain ⟨x, L, hx, rfl, HD, HM⟩ := hrel
    have t0 := (blk_cell (blk_below T20.out HM.out.2.2) 0).trans rfl
    by_cases hxl : x < wn
    ·have c2 : decide ((x : Int) < (wn : Int)) = true := decide_eq_true (by omega)
     have HXL := Aside0.mk hxl
     have t1 := (blk_cell (blk_below T20.out HM.out.2.2) 1).trans rfl
     have t2 := (blk_cell (blk_below T20.out HM.out.2.2) 2).trans rfl
     obtain ⟨ls, hls⟩ : ∃ ls, dbl (colOf xs wn H x) H hn = ls := ⟨_, rfl⟩
     have HLS := Aside0.mk hls
     have HCL : Aside0 (∀ i, gt (colOf xs wn H x) i < 4294967296) := ⟨map_lt H (fun i => HML.out _)⟩
     have HLZ : Aside0 (∀ k, k < hn → gt ls k = G x k) := ⟨fun k hk => by
      rw [← hls, ← HGG.out]
      unfold dbl gt cG
      rw [List.getD_eq_getElem?_getD, List.getElem?_map, List.getElem?_range hk]
      rfl⟩
     clear hls
     go_wp2_with (first | (go_at_call 50; refine (rDoubled L31.out HHB.out HFH.out HHN.out HCL.out).mono ?_; rw [HLS.out]; rintro e w32 ⟨A32, c32, rfl, hR, hL, hb⟩; have M32 := Aside0.mk (M3_below M31.out hb); have V32 := Aside0.mk (hR); have GLT := Aside0.mk (show go < w31.heap.size from M3_lt M31.out); clear hb hL hR) | (go_at_call 47; refine (rCol_calls (LM.out.below HM.out.2.2) HXL.out (by have := HWB2.out; omega) HHB.out.2 HMN.out).mono ?_; rintro e w31 ⟨A31, c31, rfl, hL, hb⟩; have M31 := Aside0.mk (M3_below HM.out hb); have L31 := Aside0.mk (hL); clear hb hL t0 t1 t2))
     have HD1 := HD
     obtain ⟨L1, hL1⟩ : ∃ L1, L1 = L := ⟨_, rfl⟩
     rw [← hL1] at M32 HD1
     clear HM HD hL1
     go_loopw [14] (fun yv wq => ∃ (k : Nat) (L : List Nat), k ≤ hn ∧ yv = .int .i64 (k : Int) ∧ Aside0 (Done G wn hn x k L) ∧ Aside0 (M3 w20 gO wn hn go kz co wq L) ∧ Aside0 ((nat .u32).R 50 wq w31.heap.size (fun _ => True) (.slice A32 hn c32) ls)) (fun yv _ => hn - (intOf yv).toNat)
     case atStart => exact ⟨0, L1, Nat.zero_le _, rfl, HD1, M32, V32⟩
     case round =>
      clear HD1 M32 V32 M31 L31
      obtain ⟨k, L, hk, rfl, HD, HM, HV⟩ := hrel
      by_cases hkl : k < hn
      ·have c3 : decide ((k : Int) < (hn : Int)) = true := decide_eq_true (by omega)
       have HKL := Aside0.mk hkl
       have i1 : ((k : Int) < (hn : Int)) = True := eq_true (by omega)
       obtain ⟨k1, hk1⟩ : ∃ k1, k * wn = k1 := ⟨_, rfl⟩
       obtain ⟨k2, hk2⟩ : ∃ k2, k1 + x = k2 := ⟨_, rfl⟩
       have hk2K : k2 < kz := by rw [← hk2, ← hk1, ← HKK.out, Nat.mul_comm wn hn]; exact idx_lt2 hxl hkl
       have i2 : ((k2 : Int) < (kz : Int)) = True := eq_true (by omega)
       have hKb2 := HKB.out.2
       have hk1b : k1 ≤ k2 := by omega
       have e1 : IntKind.i64.wrap ((k : Int) * (wn : Int)) = (k1 : Int) := by rw [← Int.natCast_mul, hk1]; exact wi64 (by omega) (by omega)
       have e2 : IntKind.i64.wrap ((k1 : Int) + (x : Int)) = (k2 : Int) := by rw [← hk2]; exact wi64 (by omega) (by omega)
       have HK12 : Aside0 (k * wn + x = k2) := ⟨by rw [hk1, hk2]⟩
       obtain ⟨ad, hA, hxz⟩ := C_nat (Kd.R_reads' HV.out).2.2 k (by rw [← HLS.out]; simp [dbl]; exact hkl)
       subst hA
       obtain ⟨z, hz⟩ : ∃ z, gt ls k = z := ⟨_, rfl⟩
       rw [hz] at hxz
       have HZ : Aside0 (z = G x k) := ⟨by rw [← hz]; exact HLZ.out k hkl⟩
       clear hk1 hk2 hz hkl
       go_upto_region 19 with (fail)
       have MM := Aside0.mk (M3_drew HM.out)
       have TT := Aside0.mk (blk_below T20.out MM.out.2.2)
       have VV := Aside0.mk (Kd.R_drew HV.out)
       have XX : Aside0 (wr.drew.cell? (ad.add k) = some (.int .u32 (z : Int))) := ⟨hxz⟩
       have z1 := (M3_cell MM.out k2 hk2K).1
       have zf := (M3_cell MM.out k2 hk2K).2
       clear hxz HM HV
       refine start_ (n := 13) (S := fun w' => w'.cell? ⟨gO, 2, none⟩ = some (.slice (some ⟨go, 0, none⟩) kz co) ∧ w'.cell? (ad.add k) = some (.int .u32 (z : Int))) (ds := [12]) #[ff_,ff_,ff_,ff_,ff_,ff_,ff_,ff_,ff_,ff_,ff_,ff_,ff_] (by kernel_rfl) rfl rfl ⟨(blk_cell MM.out.2.1 2).trans rfl, XX.out⟩ (fun hHeld => ?_)
       generalize wr.drew = w33 at *
       refine pure_ (i := 0) (N := some 77) (v := ?_) (a' := ?_) #[tt_,ff_,ff_,ff_,ff_,ff_,ff_,ff_,ff_,ff_,ff_,ff_,ff_] rfl rfl (by kernel_rfl) (fun _ _ _ h => h) (Or.inl ⟨by rfl, ?_⟩) ?_ ?_
       rotate_left
       ·intro w'
        go_simp
        with_reducible rfl
       rotate_left
       ·simp only [Act.put, List.setIfInBounds_toArray, List.set_cons_zero, List.set_cons_succ, i64_w, i32_w]
        rfl
       refine pure_ (i := 2) (N := some 79) (v := ?_) (a' := ?_) #[tt_,ff_,tt_,ff_,ff_,ff_,ff_,ff_,ff_,ff_,ff_,ff_,ff_] rfl rfl (by kernel_rfl) (fun _ _ _ h => h) (Or.inl ⟨by rfl, ?_⟩) ?_ ?_
       rotate_left
       ·intro w'
        go_simp
        with_reducible rfl
       rotate_left
       ·simp only [Act.put, List.setIfInBounds_toArray, List.set_cons_zero, List.set_cons_succ, i64_w, i32_w]
        rfl
       refine pure_ (i := 3) (N := some 80) (v := ?_) (a' := ?_) #[tt_,ff_,tt_,tt_,ff_,ff_,ff_,ff_,ff_,ff_,ff_,ff_,ff_] rfl rfl (by kernel_rfl) (fun _ _ _ h => h) (Or.inl ⟨by rfl, ?_⟩) ?_ ?_
       rotate_left
       ·intro w'
        go_simp
        with_reducible rfl
       rotate_left
       ·simp only [Act.put, List.setIfInBounds_toArray, List.set_cons_zero, List.set_cons_succ, i64_w, i32_w]
        rfl
       refine pure_ (i := 4) (N := some 81) (v := ?_) (a' := ?_) #[tt_,ff_,tt_,tt_,tt_,ff_,ff_,ff_,ff_,ff_,ff_,ff_,ff_] rfl rfl (by kernel_rfl) (fun _ _ _ h => h) (Or.inl ⟨by rfl, ?_⟩) ?_ ?_
       rotate_left
       ·intro w'
        go_simp
        with_reducible rfl
       rotate_left
       ·simp only [Act.put, List.setIfInBounds_toArray, List.set_cons_zero, List.set_cons_succ, i64_w, i32_w]
        rfl
       refine pure_ (i := 5) (N := some 82) (v := ?_) (a' := ?_) #[tt_,ff_,tt_,tt_,tt_,tt_,ff_,ff_,ff_,ff_,ff_,ff_,ff_] rfl rfl (by kernel_rfl) (fun _ _ _ h => h) (Or.inl ⟨by rfl, ?_⟩) ?_ ?_
       rotate_left
       ·intro w'
        go_simp
        with_reducible rfl
       rotate_left
       ·simp only [Act.put, List.setIfInBounds_toArray, List.set_cons_zero, List.set_cons_succ, i64_w, i32_w]
        rfl
       refine pure_ (i := 6) (N := some 83) (v := ?_) (a' := ?_) #[tt_,ff_,tt_,tt_,tt_,tt_,tt_,ff_,ff_,ff_,ff_,ff_,ff_] rfl rfl (by kernel_rfl) (fun _ _ _ h => h) (Or.inl ⟨by rfl, ?_⟩) ?_ ?_
       rotate_left
       ·intro w'
        go_simp
        with_reducible rfl
       rotate_left
       ·simp only [Act.put, List.setIfInBounds_toArray, List.set_cons_zero, List.set_cons_succ, i64_w, i32_w]
        rfl
       refine pure_ (i := 7) (N := some 84) (v := ?_) (a' := ?_) #[tt_,ff_,tt_,tt_,tt_,tt_,tt_,tt_,ff_,ff_,ff_,ff_,ff_] rfl rfl (by kernel_rfl) (fun _ _ _ h => h) (Or.inl ⟨by rfl, ?_⟩) ?_ ?_
       rotate_left
       ·intro w'
        go_simp
        with_reducible rfl
       rotate_left
       ·simp only [Act.put, List.setIfInBounds_toArray, List.set_cons_zero, List.set_cons_succ, i64_w, i32_w]
        rfl
       refine pure_ (i := 8) (N := some 85) (v := ?_) (a' := ?_) #[tt_,ff_,tt_,tt_,tt_,tt_,tt_,tt_,tt_,ff_,ff_,ff_,ff_] rfl rfl (by kernel_rfl) (fun _ _ _ h => h) (Or.inl ⟨by rfl, ?_⟩) ?_ ?_
       rotate_left
       ·intro w'
        go_simp
        with_reducible rfl
       rotate_left
       ·simp only [Act.put, List.setIfInBounds_toArray, List.set_cons_zero, List.set_cons_succ, i64_w, i32_w]
        rfl
       refine pure_ (i := 9) (N := some 86) (v := ?_) (a' := ?_) #[tt_,ff_,tt_,tt_,tt_,tt_,tt_,tt_,tt_,tt_,ff_,ff_,ff_] rfl rfl (by kernel_rfl) (fun _ _ _ h => h) (Or.inl ⟨by rfl, ?_⟩) ?_ ?_
       rotate_left
       ·intro w'
        go_simp
        with_reducible rfl
       rotate_left
       ·simp only [Act.put, List.setIfInBounds_toArray, List.set_cons_zero, List.set_cons_succ, i64_w, i32_w]
        rfl
       refine take_ (i := 1) (N := some 78) (v := ?_) (a' := ?_) #[tt_,tt_,tt_,tt_,tt_,tt_,tt_,tt_,tt_,tt_,ff_,ff_,ff_] rfl rfl (by kernel_rfl) (fun _ _ _ h => h) (Or.inl ⟨by rfl, ?_⟩) hHeld ?_ ?_
       rotate_left
       ·rintro w' ⟨s0, s1⟩
        go_simp
        with_reducible rfl
       rotate_left
       ·simp only [Act.put, List.setIfInBounds_toArray, List.set_cons_zero, List.set_cons_succ, i64_w, i32_w]
        rfl
       refine take_ (i := 10) (N := some 87) (v := ?_) (a' := ?_) #[tt_,tt_,tt_,tt_,tt_,tt_,tt_,tt_,tt_,tt_,tt_,ff_,ff_] rfl rfl (by kernel_rfl) (fun _ _ _ h => h) (Or.inl ⟨by rfl, ?_⟩) hHeld ?_ ?_
       rotate_left
       ·rintro w' ⟨s0, s1⟩
        go_simp
        with_reducible rfl
       rotate_left
       ·simp only [Act.put, List.setIfInBounds_toArray, List.set_cons_zero, List.set_cons_succ, i64_w, i32_w]
        rfl
       refine pure_ (i := 11) (N := some 88) (v := ?_) (a' := ?_) #[tt_,tt_,tt_,tt_,tt_,tt_,tt_,tt_,tt_,tt_,tt_,tt_,ff_] rfl rfl (by kernel_rfl) (fun _ _ _ h => h) (Or.inl ⟨by rfl, ?_⟩) ?_ ?_
       rotate_left
       ·intro w'
        go_simp
        with_reducible rfl
       rotate_left
       ·simp only [Act.put, List.setIfInBounds_toArray, List.set_cons_zero, List.set_cons_succ, i64_w, i32_w]
        rfl
       refine last_ (i := 12) (N := none) #[tt_,tt_,tt_,tt_,tt_,tt_,tt_,tt_,tt_,tt_,tt_,tt_,tt_] rfl rfl (by kernel_rfl) (by decide) (fun K hK => ?_)
       refine skip_ (w1 := ?_) (by rfl) rfl ?_ ?_
       rotate_left
       ·go_simp
        rfl
       refine hK.out _ _ ?_
       clear hK K
       refine done_ (by kernel_rfl) ?_
       have MN := Aside0.mk (M3_put MM.out k2 z GO.out)
       have VN := Aside0.mk (R_setn (g := go) (i := k2) (u := .int .u32 (z : Int)) VV.out GLT.out)
       have DN : Aside0 (Done G wn hn x (k + 1) (L.set k2 z)) := ⟨by rw [HZ.out, ← HK12.out]; exact HD.out.put HXL.out HKL.out⟩
       generalize w33.setCell ⟨go, k2, none⟩ (.int .u32 (z : Int)) = wm at *
       clear z1 zf XX MM TT VV hHeld
       go_wp2
       go_roundw
       case measure => simp [intOf]; have := HKL.out; omega
       case rel => exact ⟨k + 1, L.set k2 z, HKL.out, by go_num, DN, MN, VN⟩
      ·obtain rfl : hn = k := by omega
       have c3 : decide ((hn : Int) < (hn : Int)) = false := decide_eq_false (by omega)
       have DN := Aside0.mk HD.out.next
       clear HD HV
       go_wp2
       go_roundw
       case measure => simp [intOf]; have := HXL.out; omega
       case rel => exact ⟨x + 1, L, HXL.out, by go_num, DN, HM⟩
    ·obtain rfl : wn = x := by omega
     have c2 : decide ((wn : Int) < (wn : Int)) = false := decide_eq_false (by omega)
     have o0 := (blk_cell HM.out.2.1 0).trans rfl
     have o1 := (blk_cell HM.out.2.1 1).trans rfl
     have o2 := (blk_cell HM.out.2.1 2).trans rfl
     have RR := Aside0.mk (blk_below R20.out HM.out.2.2)
     have BB := Aside0.mk (below_step B20.out HM.out.2.2)
     have e5 : L = resZ expandS W H wn hn p := (HD.out.all hwb.1).trans HRS.out
     have E5 := Aside0.mk e5
     clear e5 HD
     go_wp2_with (first | ((with_reducible refine gate_store (p := 6) rfl ?_); refine storeP_event rfl rfl rfl gR (wn : Int) (hn : Int) (some ⟨go, 0, none⟩) kz co _ _ _ rfl rfl RR.out ?_; intro w40 hm_ hst_ hbl_; have R40 := Aside0.mk (hm_); have V40 := Aside0.mk (Kd.R_mono (Kd.R_move (Kd.R_types HM.out.1 RR.out (by decide)) (fun k hk => hst_ k hk.2)) (fun _ _ => trivial)); have B40 := Aside0.mk (BB.out.trans (hbl_ _ GR.out)); clear hm_ hst_ hbl_))
     refine bodyPost_ret (results_ct rfl _ _ gR 25 #[.int .i64 (wn : Int), .int .i64 (hn : Int), .slice (some ⟨go, 0, none⟩) kz co] (0, 0) _ rfl R40.out Try.underlying25 rfl (by kernel_rfl)) rfl ?_
     exact ⟨_, rfl, by rw [← E5.out]; exact Kd.R_lower V40.out B20.out.size, B40.out⟩
end Go.Proofs.Ytodlgdpkadkjjaa.A
end
