import Derived.Test.YtodlgdpkadkjjaaV3
section
set_option linter.unusedVariables false
set_option linter.unusedSimpArgs false
namespace Go.Proofs.Ytodlgdpkadkjjaa.A
open Go.RowKit Go.Shelf Go.Proofs.YtodlgdpkadkjjaaW.PrintWords Go.Proofs.YtodlgdpkadkjjaaW.PrintLast Go.Proofs.YtodlgdpkadkjjaaW.PrintMore Go.Proofs.Ytodlgdpkadkjjaa.PPyramidLevels

theorem R_slice1 {α : Type} {d : Kd α} {e base : Nat} {ok : Nat → Prop} {w : World} {v : Value} {xs : List α} (h : d.R e w base ok v xs) (hn : 0 < xs.length) : ∃ (ad : Addr) (c : Nat), v = .slice (some ad) xs.length c := by
 obtain ⟨g, c, rfl, _⟩ := Kd.R_form h hn
 exact ⟨_, c, rfl⟩
def ApartV (u v : Value) : Prop := ∀ k, u.ownBlock = some k → v.ownBlock ≠ some k
/-- a slice's header -/
abbrev Hd := Option Addr × Nat × Nat
def Hd.v (h : Hd) : Value := .slice h.1 h.2.1 h.2.2
def hdr : Kd Hd := Kd.scalar (fun h : Hd => h.v) (fun _ => rfl)
/-- a plane's three cells, its samples' row aside -/
def pk : Kd (Nat × Nat × Hd) := Kd.pair (nat .i64) (Kd.pair (nat .i64) hdr)
theorem pk_M {w : World} {B : Nat} {ok : Nat → Prop} (x y : Nat) (h : Hd) : pk.M w B ok (x, y, h) [.int .i64 (x : Int), .int .i64 (y : Int), h.v] := ⟨[.int .i64 (x : Int)], [.int .i64 (y : Int), h.v], rfl, rfl, ⟨[.int .i64 (y : Int)], [h.v], rfl, rfl, rfl⟩⟩
theorem infoPl : (Try.prog.info? 25).map (fun i => (i.zero, i.size, i.bytes)) = some (some (.agg #[.int .i64 0, .int .i64 0, .slice none 0 0]), 3, 40) := by kernel_rfl
theorem pk_move {W W1 : World} {B : Nat} {ok : Nat → Prop} {v : Value} {xs : List (Nat × Nat × Hd)} (h : pk.R 25 W B ok v xs) (hm : ∀ k, v.ownBlock = some k → W1.heap[k]? = W.heap[k]?) : pk.R 25 W1 B ok v xs := by
 obtain ⟨h0, inner, hown, hr⟩ := h
 refine ⟨h0, inner, own_move hown hm, hr.imp_ (fun x cs hx => ?_)⟩
 obtain ⟨c0, c1, rfl, e0, ⟨c2, c3, rfl, e1, e2⟩⟩ := hx
 exact ⟨c0, c2 ++ c3, rfl, e0, ⟨c2, c3, rfl, e1, e2⟩⟩
theorem pk_self {W : World} {B : Nat} {ok : Nat → Prop} {v : Value} {xs : List (Nat × Nat × Hd)} (h : pk.R 25 W B ok v xs) : pk.R 25 W B (fun k => v.ownBlock = some k) v xs := by
 obtain ⟨h0, inner, hown, hr⟩ := h
 refine ⟨fun k hk => hk, inner, hown, hr.imp_ (fun x cs hx => ?_)⟩
 obtain ⟨c0, c1, rfl, e0, ⟨c2, c3, rfl, e1, e2⟩⟩ := hx
 exact ⟨c0, c2 ++ c3, rfl, e0, ⟨c2, c3, rfl, e1, e2⟩⟩
theorem nat_self {k : IntKind} {e : TypeId} {W : World} {B : Nat} {ok : Nat → Prop} {v : Value} {xs : List Nat} (h : (nat k).R e W B ok v xs) : (nat k).R e W B (fun j => v.ownBlock = some j) v xs := Kd.R_of_own (Kd.own_of_R h) (fun _ hk => hk)
theorem nat_move {k : IntKind} {e : TypeId} {W W1 : World} {B : Nat} {ok : Nat → Prop} {v : Value} {xs : List Nat} (h : (nat k).R e W B ok v xs) (hm : ∀ j, v.ownBlock = some j → W1.heap[j]? = W.heap[j]?) : (nat k).R e W1 B ok v xs := Kd.R_of_own (own_move (Kd.own_of_R h) hm) h.1
/-- planes in memory of one's own: no two of them share a row -/
structure PlsOwn (B : Nat) (W : World) (vp : Value) (es : List (Nat × Nat × Hd)) (ss : List (List Nat)) : Prop where
 row : pk.R 25 W B (fun k => vp.ownBlock = some k) vp es
 len : es.length = ss.length
 pls : ∀ k (h1 : k < es.length), (nat .u32).R 50 W B (fun j => (es[k]).2.2.v.ownBlock = some j) (es[k]).2.2.v (ss.getD k [])
 ap : ∀ i j (h1 : i < es.length) (h2 : j < es.length), i ≠ j → ApartV (es[i]).2.2.v (es[j]).2.2.v
section
variable {B : Nat} {W W1 : World} {vp : Value} {es : List (Nat × Nat × Hd)} {ss : List (List Nat)}
theorem PlsOwn.move (H : PlsOwn B W vp es ss) (h1 : ∀ k, vp.ownBlock = some k → W1.heap[k]? = W.heap[k]?) (h2 : ∀ i (hi : i < es.length) k, (es[i]).2.2.v.ownBlock = some k → W1.heap[k]? = W.heap[k]?) : PlsOwn B W1 vp es ss :=
 ⟨pk_move H.row h1, H.len, fun k hk => nat_move (H.pls k hk) (h2 k hk), H.ap⟩
theorem PlsOwn.row_lt (H : PlsOwn B W vp es ss) {k : Nat} (hk : vp.ownBlock = some k) : B ≤ k ∧ k < W.heap.size ∧ ∃ cells, W.heap[k]? = some (.cells cells 25 (0, 0)) := by
 obtain ⟨h0, inner, hown, hr⟩ := H.row
 obtain ⟨cs, hc⟩ := own_typed hown k hk
 have := (Kd.R_bound H.row).1 k hk
 exact ⟨this.2.1, this.2.2.1, cs, hc⟩
theorem PlsOwn.pl_lt (H : PlsOwn B W vp es ss) {i : Nat} (hi : i < es.length) {k : Nat} (hk : (es[i]).2.2.v.ownBlock = some k) : B ≤ k ∧ k < W.heap.size ∧ ∃ cells, W.heap[k]? = some (.cells cells 50 (0, 0)) := by
 obtain ⟨cs, hc⟩ := own_typed (Kd.own_of_R (H.pls i hi)) k hk
 have := (Kd.R_bound (H.pls i hi)).1 k hk
 exact ⟨this.2.1, this.2.2.1, cs, hc⟩
theorem PlsOwn.below (H : PlsOwn B W vp es ss) (hb : Below W.heap.size W W1) : PlsOwn B W1 vp es ss :=
 H.move (fun k hk => hb.block k (H.row_lt hk).2.1) (fun i hi k hk => hb.block k (H.pl_lt hi hk).2.1)
theorem PlsOwn.keep (H : PlsOwn B W vp es ss) {g : Nat} (hst : ∀ k, k ≠ g → W1.heap[k]? = W.heap[k]?) (h1 : ¬ vp.ownBlock = some g) (h2 : ∀ i (hi : i < es.length), ¬ (es[i]).2.2.v.ownBlock = some g) : PlsOwn B W1 vp es ss :=
 H.move (fun k hk => hst k (fun e => h1 (e ▸ hk))) (fun i hi k hk => hst k (fun e => h2 i hi (e ▸ hk)))
theorem PlsOwn.ne_pl (H : PlsOwn B W vp es ss) {g : Nat} {cs : Array Value} {t : TypeId} (hg : W.heap[g]? = some (.cells cs t (0, 0))) (ht : t ≠ 50) : ∀ i (hi : i < es.length), ¬ (es[i]).2.2.v.ownBlock = some g := fun i hi e => by
 obtain ⟨_, _, cells, hc⟩ := H.pl_lt hi e
 rw [hg] at hc
 injection hc with hc
 injection hc with _ h2
 exact ht h2
theorem PlsOwn.nil (B : Nat) (W : World) : PlsOwn B W (.slice none 0 0) [] [] := ⟨Kd.R_nil _ _ _ _ _, rfl, fun k hk => absurd hk (Nat.not_lt_zero _), fun i j hi => absurd hi (Nat.not_lt_zero _)⟩
theorem PlsOwn.push (H : PlsOwn B W vp es ss) (a b : Nat) (x : Hd) (zs : List Nat) {ok : Nat → Prop} (hx : (nat .u32).R 50 W B ok x.v zs) (hap : ∀ k (hk : k < es.length), ApartV (es[k]).2.2.v x.v) {v1 : Value} {ok1 : Nat → Prop} (hR : pk.R 25 W1 B ok1 v1 (es ++ [(a, b, x)])) (hg : W.grownBy W1 vp.ownBlock) :
    PlsOwn B W1 v1 (es ++ [(a, b, x)]) (ss ++ [zs]) := by
 have hne : ∀ k (cs : Array Value), W.heap[k]? = some (Obj.cells cs 50 (0, 0)) → W1.heap[k]? = W.heap[k]? := fun k cs hc => hg.block k (blk_lt hc) (fun e => by
  obtain ⟨_, _, cells, hc2⟩ := H.row_lt e.symm
  rw [hc] at hc2
  injection hc2 with hc2
  injection hc2 with _ h2
  exact absurd h2 (by decide))
 have hxt : ∀ j, x.v.ownBlock = some j → W1.heap[j]? = W.heap[j]? := fun j hj => by
  obtain ⟨cs, hc⟩ := own_typed (Kd.own_of_R hx) j hj
  exact hne j cs hc
 refine ⟨pk_self hR, by simp [H.len], fun k hk => ?_, fun i j h1 h2 hij => ?_⟩
 ·by_cases hkl : k < es.length
  ·have e1 : (es ++ [(a, b, x)])[k] = es[k] := List.getElem_append_left hkl
   have e2 : (ss ++ [zs]).getD k [] = ss.getD k [] := by
    rw [List.getD_eq_getElem?_getD, List.getD_eq_getElem?_getD, List.getElem?_append_left (by rw [← H.len]; exact hkl)]
   rw [e1, e2]
   exact nat_move (H.pls k hkl) (fun j hj => by obtain ⟨_, _, cs, hc⟩ := H.pl_lt hkl hj; exact hne j cs hc)
  ·have hk' : k = es.length := by simp at hk; omega
   subst hk'
   have e1 : (es ++ [(a, b, x)])[es.length] = (a, b, x) := by simp
   have e2 : (ss ++ [zs]).getD es.length [] = zs := by rw [H.len]; simp
   rw [e1, e2]
   exact nat_self (nat_move hx hxt)
 ·by_cases hi : i < es.length
  ·by_cases hj : j < es.length
   ·rw [List.getElem_append_left hi, List.getElem_append_left hj]; exact H.ap i j hi hj hij
   ·have hj' : j = es.length := by simp at h2; omega
    subst hj'
    have e1 : (es ++ [(a, b, x)])[es.length] = (a, b, x) := by simp
    rw [List.getElem_append_left hi, e1]; exact hap i hi
  ·have hi' : i = es.length := by simp at h1; omega
   subst hi'
   have hj : j < es.length := by simp at h2; omega
   have e1 : (es ++ [(a, b, x)])[es.length] = (a, b, x) := by simp
   rw [List.getElem_append_left hj, e1]
   exact fun k hk he => hap j hj k he hk
theorem PlsOwn.cells {ap : Addr} {n c : Nat} (H : PlsOwn B W (.slice (some ap) n c) es ss) {k : Nat} (hk : k < es.length) :
    W.cell? (ap.add (k * 3)) = some (.int .i64 ((es[k]).1 : Int)) ∧ W.cell? (ap.add (k * 3 + 1)) = some (.int .i64 ((es[k]).2.1 : Int)) ∧ W.cell? (ap.add (k * 3 + 2)) = some (es[k]).2.2.v := by
 obtain ⟨e, _, hC⟩ := Kd.R_reads' H.row
 obtain ⟨cs, h1, h2, h3⟩ := Kd.R_get H.row (0, 0, (none, 0, 0)) (k : Int) (by omega) (by omega)
 have h4 : es.getD (k : Int).toNat (0, 0, (none, 0, 0)) = es[k] := by
  rw [Int.toNat_natCast, List.getD_eq_getElem?_getD, List.getElem?_eq_getElem hk, Option.getD_some]
 rw [h4] at h2
 obtain ⟨c0, c1, rfl, e0, ⟨c2, c3, rfl, e1, e3⟩⟩ := h2
 have e0' : c0 = [.int .i64 ((es[k]).1 : Int)] := e0
 have e1' : c2 = [.int .i64 ((es[k]).2.1 : Int)] := e1
 have e3' : c3 = [(es[k]).2.2.v] := e3
 subst e0' e1' e3'
 have hsz : pk.sz = 3 := rfl
 rw [hsz, Int.toNat_natCast] at h3
 exact ⟨h3 0 _ rfl, h3 1 _ rfl, h3 2 _ rfl⟩
/-- the planes as data -/
def plsL (es : List (Nat × Nat × Hd)) (ss : List (List Nat)) : List S25 := (List.range es.length).map (fun k => ⟨(((es[k]?.getD (0, 0, (none, 0, 0))).1 : Nat) : Int), (((es[k]?.getD (0, 0, (none, 0, 0))).2.1 : Nat) : Int), ints (ss.getD k [])⟩)
theorem PlsOwn.C25 (H : PlsOwn B W vp es ss) (h0 : 0 < ss.length) (hm : ss.length ≤ 1048576) :
    ∃ ap c, vp = .slice (some ap) ss.length c ∧ ss.length ≤ c ∧ Kd.C k25 W (some ap) ss.length (plsL es ss) := by
 have hl : es.length = ss.length := H.len
 obtain ⟨ap, c, rfl⟩ := R_slice1 H.row (by rw [hl]; exact h0)
 rw [hl] at H ⊢
 have h4 := Kd.R_reads' H.row
 refine ⟨ap, c, rfl, h4.2.1, by simp [plsL, hl], by omega, fun _ => ⟨ap, rfl, fun j p hj => ?_⟩⟩
 have hjl : j < es.length := by
  have := (List.getElem?_eq_some_iff.mp hj).1
  simpa [plsL] using this
 have hp : p = ⟨((es[j]).1 : Int), ((es[j]).2.1 : Int), ints (ss.getD j [])⟩ := by
  unfold plsL at hj
  rw [List.getElem?_map, List.getElem?_range hjl, Option.map_some, Option.some.injEq, List.getElem?_eq_getElem hjl, Option.getD_some] at hj
  exact hj.symm
 subst hp
 obtain ⟨s0, s1, s2⟩ := H.cells hjl
 obtain ⟨A2, c2, hv, hc2, hC2⟩ := Kd.R_reads (H.pls j hjl)
 rw [hv] at s2
 refine ⟨[.int .i64 ((es[j]).1 : Int), .int .i64 ((es[j]).2.1 : Int), .slice A2 (ss.getD j []).length c2], rfl, ?_, fun i u hu => ?_⟩
 ·have := k25_mk W ⟨((es[j]).1 : Int), ((es[j]).2.1 : Int), ints (ss.getD j [])⟩ (A2 := A2) (c2 := c2) (by show (ints (ss.getD j [])).length ≤ c2; rw [ints_length]; exact hc2) (by show (Kd.int .u32).C W A2 (ints (ss.getD j [])).length (ints (ss.getD j [])); rw [ints_length]; exact C_ints hC2)
  simp only [ints_length] at this
  exact this
 ·match i, hu with
  | 0, hu => injection hu with hu; subst hu; exact s0
  | 1, hu => injection hu with hu; subst hu; exact s1
  | 2, hu => injection hu with hu; subst hu; exact s2
end
end Go.Proofs.Ytodlgdpkadkjjaa.A
end
section
set_option linter.unusedVariables false
set_option linter.unusedSimpArgs false
namespace Go.Proofs.Ytodlgdpkadkjjaa.A
open Go.RowKit Go.Shelf Go.Proofs.YtodlgdpkadkjjaaW.PrintWords Go.Proofs.YtodlgdpkadkjjaaW.PrintLast Go.Proofs.YtodlgdpkadkjjaaW.PrintMore Go.Proofs.Ytodlgdpkadkjjaa.PPyramidLevels

theorem gt_gridTo {F : Nat → Nat → Nat} {W n i : Nat} (h : i < n) : gt (gridTo F W n) i = F (i % W) (i / W) := by
 rw [gt, List.getD_eq_getElem?_getD, gridTo, List.getElem?_map, List.getElem?_range h]
 rfl
theorem cropN_whole {W H : Nat} {xs : List Nat} (hl : xs.length = W * H) : cropN xs W 0 0 W H = xs := by
 unfold cropN
 refine gt_ext (by rw [gridTo_length, hl]; simp) (fun i hi => ?_)
 rw [gridTo_length] at hi
 rw [gt_gridTo hi]
 unfold cropF
 rw [Nat.zero_add, Nat.zero_add, Nat.sub_zero]
 congr 1
 rw [Nat.mul_comm]
 exact Nat.div_add_mod i W
theorem Crop_whole (W H : Nat) (xs : List Nat) (A : Option Addr) (n cap : Nat) (w : World) (hp : (Pl.mk W H xs).ok) (h : PL w A n cap xs) :
    Calls Try.prog 68 #[.agg #[.int .i64 (W : Int), .int .i64 (H : Int), .slice A n cap], .agg #[.int .i64 0, .int .i64 0, .int .i64 (W : Int), .int .i64 (H : Int)]] w fun e w' => ∃ v, e = .returned (.tuple #[.agg #[.int .i64 (W : Int), .int .i64 (H : Int), v], .int .i64 0]) ∧ (nat .u32).R 50 w' w.heap.size (fun _ => True) v xs ∧ Below w.heap.size w w' := by
 obtain ⟨h1, h2, rfl⟩ := h
 obtain ⟨p1, p2, p3, p4, p5, p6, p7⟩ := hp
 refine (Crop_calls ⟨W, H, xs⟩ 0 0 W H cap A w ⟨p1, p2, p3, p4, p5, p6, p7⟩ p1 (Nat.le_refl _) p2 (Nat.le_refl _) h1 h2).mono ?_
 rintro e w' ⟨v, rfl, hR, hb⟩
 have e1 : cropN xs W 0 0 W H = xs := cropN_whole p6
 rw [e1] at hR
 exact ⟨v, rfl, hR, hb⟩
/-- a plane halved again and again -/
def lvl (W H : Nat) (xs : List Nat) : Nat → Pl
 | 0 => ⟨W, H, xs⟩
 | i + 1 => ⟨hf (lvl W H xs i).w, hf (lvl W H xs i).h, redS (lvl W H xs i).w (lvl W H xs i).h (lvl W H xs i).s⟩
theorem lvl_ok {W H : Nat} {xs : List Nat} (hp : (Pl.mk W H xs).ok) : ∀ i, (lvl W H xs i).ok
 | 0 => hp
 | i + 1 => red_ok (W := (lvl W H xs i).w) (H := (lvl W H xs i).h) (lvl_ok hp i)
def lvlF (W H : Nat) (xs : List Nat) (i : Nat) : List Nat := finS (lvl W H xs i).w (lvl W H xs i).h (lvl W H xs i).s
def finsB (W H : Nat) (xs : List Nat) (n : Nat) : List (List Nat) := (List.range n).map (lvlF W H xs)
def dimsB (W H : Nat) (xs : List Nat) (n : Nat) : List (Nat × Nat) := (List.range n).map (fun i => ((lvl W H xs i).w, (lvl W H xs i).h))
theorem finsB_succ (W H : Nat) (xs : List Nat) (n : Nat) : finsB W H xs (n + 1) = finsB W H xs n ++ [lvlF W H xs n] := by unfold finsB; rw [List.range_succ, List.map_append]; rfl
theorem dimsB_succ (W H : Nat) (xs : List Nat) (n : Nat) : dimsB W H xs (n + 1) = dimsB W H xs n ++ [((lvl W H xs n).w, (lvl W H xs n).h)] := by unfold dimsB; rw [List.range_succ, List.map_append]; rfl
/-- what Build tells -/
def bldS (W H : Nat) (xs : List Nat) (n : Nat) : List (List Nat) := finsB W H xs n ++ [(lvl W H xs n).s]
def dim2 (es : List (Nat × Nat × Hd)) : List (Nat × Nat) := es.map (fun e => (e.1, e.2.1))
theorem apart_of {B : Nat} {W0 W : World} {es : List (Nat × Nat × Hd)} {ss : List (List Nat)} {vp v : Value} {zs : List Nat} {ok : Nat → Prop} (H : PlsOwn B W0 vp es ss) (hR : (nat .u32).R 50 W W0.heap.size ok v zs) : ∀ k (hk : k < es.length), ApartV (es[k]).2.2.v v := fun k hk j hj he => by
 have h1 := (H.pl_lt hk hj).2.1
 have h2 := ((Kd.R_bound hR).1 j he).2.1
 omega
theorem ne_grown {v v1 : Value} {W : World} {g : Nat} (h : ∀ k, v.ownBlock = some k → k ≠ g) (hat : v1.ownBlock = v.ownBlock ∨ ∃ b, v1.ownBlock = some b ∧ W.heap.size ≤ b) (hg : g < W.heap.size) : ∀ k, v1.ownBlock = some k → k ≠ g := fun k hk e => by
 rcases hat with h1 | ⟨b, h1, hle⟩
 ·exact h k (by rw [← h1]; exact hk) e
 ·rw [h1] at hk
  injection hk with hk
  omega
theorem apart_snoc {es : List (Nat × Nat × Hd)} {a b : Nat} {x : Hd} {v : Value} (h : ∀ k (hk : k < es.length), ApartV (es[k]).2.2.v v) (h2 : ApartV x.v v) : ∀ k (hk : k < (es ++ [(a, b, x)]).length), ApartV ((es ++ [(a, b, x)])[k]).2.2.v v := fun k hk => by
 by_cases hkl : k < es.length
 ·rw [List.getElem_append_left hkl]; exact h k hkl
 ·have hk' : k = es.length := by simp at hk; omega
  subst hk'
  simpa using h2
set_option maxHeartbeats 8000000 in
set_option maxRecDepth 100000 in
theorem Build_ok (W H : Nat) (xs : List Nat) (A : Option Addr) (n cap lv : Nat) (w : World) (hp : (Pl.mk W H xs).ok) (h : PL w A n cap xs) (hlv : lv ≤ 12) :
    Calls Try.prog 37 #[.agg #[.int .i64 (W : Int), .int .i64 (H : Int), .slice A n cap], .int .i64 (lv : Int)] w fun e w' => ∃ v es, e = .returned (.tuple #[v, .int .i64 0]) ∧ PlsOwn w.heap.size w' v es (bldS W H xs lv) ∧ dim2 es = dimsB W H xs (lv + 1) ∧ Below w.heap.size w w' := by
 have hu25 := Try.underlying25
 have HP := Aside0.mk hp
 have HL := Aside0.mk h
 have t1 : decide ((lv : Int) < 0) = false := decide_eq_false (by omega)
 have t2 : decide ((12 : Int) < (lv : Int)) = false := decide_eq_false (by omega)
 have t3 : decide (12 < lv) = false := decide_eq_false (by omega)
 clear hp h
 go_enter Try.func37, Try.ntmps37
 go_wp2_with (first | ((with_reducible refine gate_dst (N := 2) rfl ?_); refine box_event ?hg (N := 2) ?hd (cs := #[.int .i64 (W : Int), .int .i64 (H : Int), .slice A n cap]) (t := 25) ?hr ?_; (case hd => rfl); (case hg => rfl); (case hr => first | (go_simp; done) | (go_simp; rfl)); intro gP hg_ w1 hm_ hb_; have P1 := Aside0.mk (hm_); have B1 := Aside0.mk (hb_); have GP := Aside0.mk (show w.heap.size ≤ gP by rw [hg_]; exact Nat.le_refl _); have p0 := (blk_cell P1.out 0).trans rfl; have p1 := (blk_cell P1.out 1).trans rfl; have p2 := (blk_cell P1.out 2).trans rfl; clear hm_ hb_ hg_) | (go_at_call 68; refine (Crop_whole W H xs A n cap _ HP.out (HL.out.below B1.out)).mono ?_; rintro e w2 ⟨v2, rfl, hR, hb⟩; obtain ⟨A2, c2, hv2⟩ := Kd.R_slice hR; obtain ⟨n2, hn2⟩ : ∃ n2, xs.length = n2 := ⟨_, rfl⟩; rw [hn2] at hv2; subst hv2; have V2 := Aside0.mk (Kd.R_lower hR B1.out.size); have P2 := Aside0.mk (blk_below P1.out hb); have B2 := Aside0.mk (below_step B1.out hb); clear hR hn2 hb p0 p1 p2) | ((with_reducible refine gate_store (p := 2) rfl ?_); refine storeP_event rfl rfl rfl gP (W : Int) (H : Int) A2 n2 c2 _ _ _ rfl rfl P2.out ?_; intro w3 hm_ hst_ hbl_; have P3 := Aside0.mk (hm_); have B3 := Aside0.mk (B2.out.trans (hbl_ _ GP.out)); have V3 := Aside0.mk (Kd.R_mono (Kd.R_move (Kd.R_types V2.out P2.out (by decide)) (fun k hk => hst_ k hk.2)) (fun _ _ => trivial)); clear hm_ hst_ hbl_))
 clear P2 B2 V2
 obtain ⟨vo, hvo⟩ : ∃ v, v = Value.slice none 0 0 := ⟨_, rfl⟩
 have O3 : Aside0 (PlsOwn w.heap.size w3 vo [] (finsB W H xs 0)) := ⟨by rw [hvo]; exact PlsOwn.nil _ _⟩
 have N3 : Aside0 (∀ k, vo.ownBlock = some k → k ≠ gP) := ⟨by rw [hvo]; intro k hk; simp [Value.ownBlock] at hk⟩
 have A3 : Aside0 (∀ k (hk : k < ([] : List (Nat × Nat × Hd)).length), ApartV (([] : List (Nat × Nat × Hd))[k]).2.2.v (.slice A2 n2 c2)) := ⟨fun k hk => absurd hk (Nat.not_lt_zero _)⟩
 have hvo' := hvo.symm
 rw [hvo']
 clear hvo hvo'
 go_loopw [7, 31] (fun ov iv wr => ∃ (i : Nat) (p : Pl) (es : List (Nat × Nat × Hd)) (Ai : Option Addr) (ni ci : Nat), i ≤ lv ∧ iv = .int .i64 (i : Int) ∧ Aside0 (p = lvl W H xs i) ∧ Aside0 (dim2 es = dimsB W H xs i) ∧ Aside0 (PlsOwn w.heap.size wr ov es (finsB W H xs i)) ∧ Aside0 (∀ k, ov.ownBlock = some k → k ≠ gP) ∧ Aside0 (wr.heap[gP]? = some (.cells #[.int .i64 (p.w : Int), .int .i64 (p.h : Int), .slice Ai ni ci] 25 (0, 0))) ∧ Aside0 ((nat .u32).R 50 wr w.heap.size (fun _ => True) (.slice Ai ni ci) p.s) ∧ Aside0 (∀ k (hk : k < es.length), ApartV (es[k]).2.2.v (.slice Ai ni ci)) ∧ Aside0 (Below w.heap.size w wr)) (fun _ iv _ => lv - (intOf iv).toNat)
 case atStart => exact ⟨0, _, [], A2, n2, c2, Nat.zero_le _, rfl, ⟨rfl⟩, ⟨rfl⟩, O3, N3, P3, V3, A3, B3⟩
 case round =>
  clear O3 N3 A3 P3 V3 B3
  obtain ⟨i, p, es, Ai, ni, ci, hi, rfl, HPE, HDE, OI, NOP, PI, VI, AI, BI⟩ := hrel
  have HPO : Aside0 ((Pl.mk p.w p.h p.s).ok) := ⟨by have := lvl_ok HP.out i; rw [← HPE.out] at this; exact this⟩
  obtain ⟨e1, hci, hCP⟩ := Kd.R_reads' VI.out
  have HPN := Aside0.mk e1.symm
  have HCI := Aside0.mk hci
  have CP : Aside0 ((nat .u32).C wr Ai ni p.s) := ⟨by rw [← e1] at hCP; exact hCP⟩
  have HEL : Aside0 (es.length = i) := ⟨by have h1 := congrArg List.length HDE.out; simpa [dim2, dimsB] using h1⟩
  have HLE : Aside0 ((es.length + 1) * 40 ≤ 140737488355328) := ⟨by rw [HEL.out]; omega⟩
  clear e1 hci hCP
  by_cases hlt : i < lv
  ·have c1 : decide ((i : Int) < (lv : Int)) = true := decide_eq_true (by omega)
   have p0 := (blk_cell PI.out 0).trans rfl
   have p1 := (blk_cell PI.out 1).trans rfl
   have p2 := (blk_cell PI.out 2).trans rfl
   obtain ⟨vo, hvo⟩ : ∃ v, v = u7 := ⟨_, rfl⟩
   subst hvo
   go_upto_region 10 with (first | (go_at_call 25; refine (Split_ok p.w p.h p.s Ai ni ci _ HPO.out HPN.out CP.out HCI.out).mono ?_; rintro e w4 ⟨v4, u4, B, rfl, hB, hR, hU, hb⟩; obtain ⟨A4, c4, hv4⟩ := Kd.R_slice hR; obtain ⟨n4, hn4⟩ : ∃ n4, (redS p.w p.h p.s).length = n4 := ⟨_, rfl⟩; rw [hn4] at hv4; subst hv4; obtain ⟨A5, c5, hv5⟩ := Kd.R_slice hU; obtain ⟨n5, hn5⟩ : ∃ n5, (finS p.w p.h p.s).length = n5 := ⟨_, rfl⟩; rw [hn5] at hv5; subst hv5; have V4 := Aside0.mk (Kd.R_mono (Kd.R_lower hR BI.out.size) (fun _ _ => trivial)); have U4 := Aside0.mk (Kd.R_lower hU (Nat.le_trans BI.out.size hB)); have AP4 := Aside0.mk (apart_of OI.out (Kd.R_lower hU hB)); have AC4 := Aside0.mk (apart_of OI.out hR); have AF4 := Aside0.mk (show ApartV (.slice A5 n5 c5) (.slice A4 n4 c4) from fun j hj he => by have h1 := ((Kd.R_bound hU).1 j hj).2.1; have h2 := hR.1 j he; omega); have P4 := Aside0.mk (blk_below PI.out hb); have B4 := Aside0.mk (below_step BI.out hb); have O4 := Aside0.mk (OI.out.below hb); have NE4 := Aside0.mk (show ∀ k, vo.ownBlock = some k → k < w4.heap.size from fun k hk => (O4.out.row_lt hk).2.1); clear hR hU hB hn4 hn5 hb CP) | ((with_reducible refine gate_dst (N := 8) rfl ?_); refine box_event ?hg (N := 8) ?hd (cs := #[.int .i64 0, .int .i64 0, .slice none 0 0]) (t := 25) ?hr ?_; (case hd => rfl); (case hg => rfl); (case hr => first | (go_simp; done) | (go_simp; rfl)); intro g8 hg_ w5 hm_ hb_; have P5 := Aside0.mk (blk_below P4.out hb_); have Z8 := Aside0.mk (hm_); have V5 := Aside0.mk (Kd.R_below V4.out hb_); have U5 := Aside0.mk (Kd.R_below U4.out hb_); have O5 := Aside0.mk (O4.out.below hb_); have B5 := Aside0.mk (below_step B4.out hb_); have G8 := Aside0.mk (show w.heap.size ≤ g8 by rw [hg_]; exact below_size B4.out); have NP8 := Aside0.mk (show gP ≠ g8 by rw [hg_]; have := blk_lt P4.out; omega); have NO8 := Aside0.mk (show ∀ k, vo.ownBlock = some k → k ≠ g8 by intro k hk; rw [hg_]; have := NE4.out k hk; omega); clear hm_ hb_ hg_ P4 V4 U4 O4 B4) | ((with_reducible refine gate_dst (N := 9) rfl ?_); refine box_event ?hg (N := 9) ?hd (cs := #[.int .i64 0, .int .i64 0, .slice none 0 0]) (t := 25) ?hr ?_; (case hd => rfl); (case hg => rfl); (case hr => first | (go_simp; done) | (go_simp; rfl)); intro g9 hg_ w6 hm_ hb_; have P6 := Aside0.mk (blk_below P5.out hb_); have Z8b := Aside0.mk (blk_below Z8.out hb_); have Z9 := Aside0.mk (hm_); have V6 := Aside0.mk (Kd.R_below V5.out hb_); have U6 := Aside0.mk (Kd.R_below U5.out hb_); have O6 := Aside0.mk (O5.out.below hb_); have B6 := Aside0.mk (below_step B5.out hb_); have G9 := Aside0.mk (show w.heap.size ≤ g9 by rw [hg_]; exact below_size B5.out); have NP9 := Aside0.mk (show gP ≠ g9 by rw [hg_]; have := blk_lt P5.out; omega); have N89 := Aside0.mk (show g8 ≠ g9 by rw [hg_]; have := blk_lt Z8.out; omega); have NO9 := Aside0.mk (show ∀ k, vo.ownBlock = some k → k ≠ g9 by intro k hk; rw [hg_]; have := (O5.out.row_lt hk).2.1; omega); clear hm_ hb_ hg_ P5 V5 U5 O5 B5 Z8) | ((with_reducible refine gate_store (p := 8) rfl ?_); refine storeP_event rfl rfl rfl g8 ((hf p.w : Nat) : Int) ((hf p.h : Nat) : Int) A4 n4 c4 _ _ _ rfl rfl Z8b.out ?_; intro w7 hm_ hst_ hbl_; have X8 := Aside0.mk (hm_); have P7 := Aside0.mk ((hst_ gP NP8.out).trans P6.out); have Z9b := Aside0.mk ((hst_ g9 N89.out.symm).trans Z9.out); have V7 := Aside0.mk (Kd.R_mono (Kd.R_move (Kd.R_types V6.out Z8b.out (by decide)) (fun k hk => hst_ k hk.2)) (fun _ _ => trivial)); have U7 := Aside0.mk (Kd.R_mono (Kd.R_move (Kd.R_types U6.out Z8b.out (by decide)) (fun k hk => hst_ k hk.2)) (fun _ _ => trivial)); have O7 := Aside0.mk (O6.out.keep hst_ (fun h9 => NO8.out _ h9 rfl) (O6.out.ne_pl Z8b.out (by decide))); have B7 := Aside0.mk (B6.out.trans (hbl_ _ G8.out)); clear P6 V6 U6 O6 B6 Z8b Z9; clear hm_ hst_ hbl_) | ((with_reducible refine gate_store (p := 9) rfl ?_); refine storeP_event rfl rfl rfl g9 (p.w : Int) (p.h : Int) A5 n5 c5 _ _ _ rfl rfl Z9b.out ?_; intro w8 hm_ hst_ hbl_; have X9 := Aside0.mk (hm_); have P8 := Aside0.mk ((hst_ gP NP9.out).trans P7.out); have X8b := Aside0.mk ((hst_ g8 N89.out).trans X8.out); have V8 := Aside0.mk (Kd.R_mono (Kd.R_move (Kd.R_types V7.out Z9b.out (by decide)) (fun k hk => hst_ k hk.2)) (fun _ _ => trivial)); have U8 := Aside0.mk (Kd.R_mono (Kd.R_move (Kd.R_types U7.out Z9b.out (by decide)) (fun k hk => hst_ k hk.2)) (fun _ _ => trivial)); have O8 := Aside0.mk (O7.out.keep hst_ (fun h9 => NO9.out _ h9 rfl) (O7.out.ne_pl Z9b.out (by decide))); have B8 := Aside0.mk (B7.out.trans (hbl_ _ G9.out)); clear P7 V7 U7 O7 B7 Z9b X8; clear hm_ hst_ hbl_))
   have hbD : Below w8.heap.size w8 w8.drew := below_drew1 (Below.refl _ _)
   have PD := Aside0.mk (blk_below P8.out hbD)
   have XD9 := Aside0.mk (blk_below X9.out hbD)
   have XD8 := Aside0.mk (blk_below X8b.out hbD)
   have VD := Aside0.mk (Kd.R_below V8.out hbD)
   have UD := Aside0.mk (Kd.R_below U8.out hbD)
   have OD := Aside0.mk (O8.out.below hbD)
   have BD := Aside0.mk (below_step B8.out hbD)
   have APD := AP4
   clear hbD P8 X9 X8b V8 U8 O8 B8 p0 p1 p2
   refine start_ (n := 7) (S := fun w' => w'.cell? ⟨g9, 0, none⟩ = some (.int .i64 (p.w : Int)) ∧ w'.cell? ⟨g9, 1, none⟩ = some (.int .i64 (p.h : Int)) ∧ w'.cell? ⟨g9, 2, none⟩ = some (.slice A5 n5 c5) ∧ w'.cell? ⟨g8, 0, none⟩ = some (.int .i64 ((hf p.w : Nat) : Int)) ∧ w'.cell? ⟨g8, 1, none⟩ = some (.int .i64 ((hf p.h : Nat) : Int)) ∧ w'.cell? ⟨g8, 2, none⟩ = some (.slice A4 n4 c4)) (ds := [6]) #[false, false, false, false, false, false, false] (by kernel_rfl) rfl rfl ⟨(blk_cell XD9.out 0).trans rfl, (blk_cell XD9.out 1).trans rfl, (blk_cell XD9.out 2).trans rfl, (blk_cell XD8.out 0).trans rfl, (blk_cell XD8.out 1).trans rfl, (blk_cell XD8.out 2).trans rfl⟩ (fun hHeld => ?_)
   generalize w8.drew = wd at *
   refine pure_ (i := 0) (N := some 39) (v := ?_) (a' := ?_) #[true, false, false, false, false, false, false] rfl rfl (by kernel_rfl) (fun _ _ _ h => h) (Or.inl ⟨by rfl, ?_⟩) ?_ ?_
   rotate_left
   ·intro w'
    go_simp
    with_reducible rfl
   rotate_left
   ·simp only [Act.put, List.setIfInBounds_toArray, List.set_cons_zero, List.set_cons_succ, i64_w, i32_w]
    rfl
   refine take_ (i := 1) (N := some 40) (v := ?_) (a' := ?_) #[true, true, false, false, false, false, false] rfl rfl (by kernel_rfl) (fun _ _ _ h => h) (Or.inl ⟨by rfl, ?_⟩) hHeld ?_ ?_
   rotate_left
   ·rintro w' ⟨s0, s1, s2, s3, s4, s5⟩
    go_simp
    with_reducible rfl
   rotate_left
   ·simp only [Act.put, List.setIfInBounds_toArray, List.set_cons_zero, List.set_cons_succ, i64_w, i32_w]
    rfl
   refine take_ (i := 4) (N := some 43) (v := ?_) (a' := ?_) #[true, true, false, false, true, false, false] rfl rfl (by kernel_rfl) (fun _ _ _ h => h) (Or.inl ⟨by rfl, ?_⟩) hHeld ?_ ?_
   rotate_left
   ·rintro w' ⟨s0, s1, s2, s3, s4, s5⟩
    go_simp
    with_reducible rfl
   rotate_left
   ·simp only [Act.put, List.setIfInBounds_toArray, List.set_cons_zero, List.set_cons_succ, i64_w, i32_w]
    rfl
   refine one_ (i := 2) (N := some 41) #[true, true, true, false, true, false, false] rfl rfl (by kernel_rfl) (by decide) (fun K hK => ?_)
   refine value_ (w1 := ?_) (v := ?_) (by rfl) rfl ?_ ?_
   rotate_left 2
   ·go_simp
    constructor
    ·rfl
    ·rfl
   have hbA := below_alloc (Below.refl _ wd) (.cells #[.int .i64 (p.w : Int), .int .i64 (p.h : Int), .slice A5 n5 c5] 25 (0, 0))
   have XA9 := Aside0.mk (blk_below XD9.out hbA)
   have XA8 := Aside0.mk (blk_below XD8.out hbA)
   clear hbA
   refine hK.out _ _ ⟨(blk_cell XA9.out 0).trans rfl, (blk_cell XA9.out 1).trans rfl, (blk_cell XA9.out 2).trans rfl, (blk_cell XA8.out 0).trans rfl, (blk_cell XA8.out 1).trans rfl, (blk_cell XA8.out 2).trans rfl⟩ (fun hHeld => ?_)
   clear hK K
   refine norm_ (a' := ?_) ?_ ?_
   rotate_left
   ·show Act.put _ (some 41) _ = _
    simp only [Act.put, List.setIfInBounds_toArray, List.set_cons_zero, List.set_cons_succ, i64_w, i32_w]
    rfl
   refine one_ (i := 3) (N := some 42) #[true, true, true, true, true, false, false] rfl rfl (by kernel_rfl) (by decide) (fun K hK => ?_)
   refine Kd.R_append_step pk (w0 := w) w.heap.size (by rfl) (.tmp 39) (.tmp 41) 67 25 (.agg #[.int .i64 0, .int .i64 0, .slice none 0 0]) 40 rfl Try.underlying67 infoPl rfl (by decide) (by decide) vo es (p.w, p.h, ((A5, n5, c5) : Hd)) [.int .i64 (p.w : Int), .int .i64 (p.h : Int), .slice A5 n5 c5] (fun _ => True) (fun _ => False) rfl rfl (pk_M p.w p.h (A5, n5, c5)) (fun _ h => h.elim) (fun _ _ => trivial) (Kd.R_mono OD.out.row (fun _ _ => trivial)) BD.out (below_size BD.out) HLE.out ?_
   intro v11 w11 hR hB hg hat
   have O11 := Aside0.mk (OD.out.push p.w p.h (A5, n5, c5) (finS p.w p.h p.s) UD.out APD.out hR hg)
   have B11 := Aside0.mk (hB)
   have P11 := Aside0.mk (blk_grown PD.out hg (fun e => NOP.out gP e.symm rfl))
   have X11 := Aside0.mk (blk_grown XD9.out hg (fun e => NO9.out g9 e.symm rfl))
   have Y11 := Aside0.mk (blk_grown XD8.out hg (fun e => NO8.out g8 e.symm rfl))
   have V11 := Aside0.mk (Kd.R_grown (ok := fun k => True ∧ some k ≠ vo.ownBlock) (Kd.R_apartR VD.out OD.out.row (by decide)) hg (fun k hk => hk.2))
   have NO11 := Aside0.mk (ne_grown NOP.out hat (blk_lt PD.out))
   clear hR hB hg hat
   refine hK.out _ _ ⟨(blk_cell X11.out 0).trans rfl, (blk_cell X11.out 1).trans rfl, (blk_cell X11.out 2).trans rfl, (blk_cell Y11.out 0).trans rfl, (blk_cell Y11.out 1).trans rfl, (blk_cell Y11.out 2).trans rfl⟩ (fun hHeld => ?_)
   clear hK K
   refine norm_ (a' := ?_) ?_ ?_
   rotate_left
   ·show Act.put _ (some 42) _ = _
    simp only [Act.put, List.setIfInBounds_toArray, List.set_cons_zero, List.set_cons_succ, i64_w, i32_w]
    rfl
   refine pure_ (i := 5) (N := some 7) (v := ?_) (a' := ?_) #[true, true, true, true, true, true, false] rfl rfl (by kernel_rfl) (fun _ _ _ h => h) (Or.inl ⟨by rfl, ?_⟩) ?_ ?_
   rotate_left
   ·intro w'
    go_simp
    with_reducible rfl
   rotate_left
   ·simp only [Act.put, List.setIfInBounds_toArray, List.set_cons_zero, List.set_cons_succ, i64_w, i32_w]
    rfl
   refine last_ (i := 6) (N := none) #[true, true, true, true, true, true, true] rfl rfl (by kernel_rfl) (by decide) (fun K hK => ?_)
   refine storeP_step (by rfl) rfl rfl gP ((hf p.w : Nat) : Int) ((hf p.h : Nat) : Int) A4 n4 c4 _ _ _ rfl rfl P11.out ?_
   intro w12 hm_ hst_ hbl_
   have P12 := Aside0.mk (hm_)
   have O12 := Aside0.mk (O11.out.keep hst_ (fun h9 => NO11.out _ h9 rfl) (O11.out.ne_pl P11.out (by decide)))
   have B12 := Aside0.mk (B11.out.trans (hbl_ _ GP.out))
   have V12 := Aside0.mk (Kd.R_mono (Kd.R_move (Kd.R_types V11.out P11.out (by decide)) (fun k hk => hst_ k hk.2)) (fun _ _ => trivial))
   clear hm_ hst_ hbl_
   refine hK.out _ _ ?_
   clear hK K
   refine done_ (by kernel_rfl) ?_
   try go_wp2
   go_roundw
   case measure => simp [intOf]; omega
   case rel => exact ⟨i + 1, ⟨hf p.w, hf p.h, redS p.w p.h p.s⟩, es ++ [(p.w, p.h, ((A5, n5, c5) : Hd))], A4, n4, c4, by omega, by go_num, ⟨by rw [HPE.out]; rfl⟩, ⟨by rw [dimsB_succ, ← HDE.out, ← HPE.out]; simp [dim2]⟩, ⟨by rw [finsB_succ]; unfold lvlF; rw [← HPE.out]; exact O12.out⟩, NO11, P12, V12, ⟨apart_snoc AC4.out AF4.out⟩, B12⟩
  ·obtain rfl : i = lv := by omega
   have c1 : decide ((i : Int) < (i : Int)) = false := decide_eq_false (by omega)
   have p0 := (blk_cell PI.out 0).trans rfl
   have p1 := (blk_cell PI.out 1).trans rfl
   have p2 := (blk_cell PI.out 2).trans rfl
   obtain ⟨vo, hvo⟩ : ∃ v, v = u7 := ⟨_, rfl⟩
   subst hvo
   go_wp2_with (((with_reducible refine gate_builtin (b := .append) (xs := #[.tmp 45, .tmp 47]) rfl ?_); at_builtin; refine Kd.R_append pk (w0 := w) w.heap.size rfl (.tmp 45) (.tmp 47) 67 25 (.agg #[.int .i64 0, .int .i64 0, .slice none 0 0]) 40 rfl Try.underlying67 infoPl rfl (by decide) (by decide) vo es (p.w, p.h, ((Ai, ni, ci) : Hd)) [.int .i64 (p.w : Int), .int .i64 (p.h : Int), .slice Ai ni ci] (fun _ => True) (fun _ => False) rfl rfl (pk_M p.w p.h (Ai, ni, ci)) (fun _ h => h.elim) (fun _ _ => trivial) (Kd.R_mono OI.out.row (fun _ _ => trivial)) BI.out BI.out.size HLE.out ?_; intro v11 w11 hR hB hg hat; have O11 := Aside0.mk (OI.out.push p.w p.h (Ai, ni, ci) p.s VI.out AI.out hR hg); have B11 := Aside0.mk (hB); clear hR hB hg hat))
   go_ret2
   exact ⟨_, _, rfl, by unfold bldS; rw [← HPE.out]; exact O11.out, by rw [dimsB_succ, ← HDE.out, ← HPE.out]; simp [dim2], B11.out⟩
end Go.Proofs.Ytodlgdpkadkjjaa.A
end
section
set_option linter.unusedVariables false
set_option linter.unusedSimpArgs false
namespace Go.Proofs.Ytodlgdpkadkjjaa.A
open Go.RowKit Go.Shelf Go.Proofs.YtodlgdpkadkjjaaW.PrintWords Go.Proofs.YtodlgdpkadkjjaaW.PrintLast Go.Proofs.YtodlgdpkadkjjaaW.PrintMore Go.Proofs.Ytodlgdpkadkjjaa.PPyramidLevels

/-- the error of a list's plane -/
def chk (l : List S25) (i : Nat) : Nat := checkE (rd_T25 l (i : Int)).f0 (rd_T25 l (i : Int)).f1 (rd_T25 l (i : Int)).f2.length
def Pl.s25 (p : Pl) : S25 := ⟨(p.w : Int), (p.h : Int), ints p.s⟩
def plz : Pl := ⟨0, 0, []⟩
/-- planes joined, from the last one on: the error, and the plane -/
def rsts (ps : List Pl) : Nat → Nat × Pl
 | 0 => (0, ps.getD (ps.length - 1) plz)
 | k + 1 => if hf (ps.getD (ps.length - 2 - k) plz).w = (rsts ps k).2.w ∧ hf (ps.getD (ps.length - 2 - k) plz).h = (rsts ps k).2.h then (0, ⟨(ps.getD (ps.length - 2 - k) plz).w, (ps.getD (ps.length - 2 - k) plz).h, joiS (rsts ps k).2.w (rsts ps k).2.h (ps.getD (ps.length - 2 - k) plz).w (ps.getD (ps.length - 2 - k) plz).h (rsts ps k).2.s (ps.getD (ps.length - 2 - k) plz).s⟩) else (141, (rsts ps k).2)
theorem rsts_err (ps : List Pl) : ∀ k, (rsts ps k).1 = 0 ∨ (rsts ps k).1 = 141
 | 0 => .inl rfl
 | k + 1 => by
  unfold rsts
  split
  ·exact .inl rfl
  ·exact .inr rfl
theorem Join_form (W H : Nat) (A : Option Addr) (n cap : Nat) (w_ h_ : Nat) (D : Option Addr) (m dcap : Nat) (w : World) (hE1 : checkE (W : Int) (H : Int) n = 0) (hE2 : checkE (w_ : Int) (h_ : Int) m = 0) (hf_ : ¬ (hf w_ = W ∧ hf h_ = H)) :
    Calls Try.prog 33 #[.agg #[.int .i64 (W : Int), .int .i64 (H : Int), .slice A n cap], .agg #[.int .i64 (w_ : Int), .int .i64 (h_ : Int), .slice D m dcap]] w fun e w' => e = .returned (.tuple #[.agg #[.int .i64 0, .int .i64 0, .slice none 0 0], .int .i64 141]) ∧ Below w.heap.size w w' := by
 by_cases h4 : hf w_ = W
 ·exact Join_high W H A n cap w_ h_ D m dcap w hE1 hE2 h4 (fun h5 => hf_ ⟨h4, h5⟩)
 ·exact Join_wide W H A n cap w_ h_ D m dcap w hE1 hE2 h4
theorem cells_T25 {w : World} {A : Option Addr} {n : Nat} {l : List S25} (h : Kd.C k25 w A n l) (i : Nat) (hi : i < n) : ∃ ad aq A2 c2, A = some ad ∧ ad.add (i * 3) = aq ∧ w.cell? aq = some (.int .i64 (rd_T25 l i).f0) ∧ w.cell? ⟨aq.block, aq.off + 1, none⟩ = some (.int .i64 (rd_T25 l i).f1) ∧ w.cell? ⟨aq.block, aq.off + 2, none⟩ = some (.slice A2 (rd_T25 l i).f2.length c2) ∧ (rd_T25 l i).f2.length ≤ c2 ∧ (Kd.int .u32).C w A2 (rd_T25 l i).f2.length (rd_T25 l i).f2 := by
 obtain ⟨ad, A2, c2, e, h1, h2, h3, h4, h5⟩ := at_T25 h (i : Int) (by omega) (by omega)
 rw [Int.toNat_natCast] at h1 h2 h3
 exact ⟨ad, _, A2, c2, e, rfl, h1, h2, h3, h4, h5⟩
theorem rd_s25 {ps : List Pl} {i : Nat} (hi : i < ps.length) : rd_T25 (ps.map Pl.s25) (i : Int) = (ps.getD i plz).s25 := by
 unfold rd_T25
 rw [Int.toNat_natCast, List.getD_eq_getElem?_getD, List.getD_eq_getElem?_getD, List.getElem?_map, List.getElem?_eq_getElem hi]
 rfl
/-- a plane of a list -/
theorem cells_s25 {w : World} {A : Option Addr} {n : Nat} {ps : List Pl} (h : Kd.C k25 w A n (ps.map Pl.s25)) (i : Nat) (hi : i < n) : ∃ ad aq A2 n2 c2, A = some ad ∧ ad.add (i * 3) = aq ∧ w.cell? aq = some (.int .i64 ((ps.getD i plz).w : Int)) ∧ w.cell? ⟨aq.block, aq.off + 1, none⟩ = some (.int .i64 ((ps.getD i plz).h : Int)) ∧ w.cell? ⟨aq.block, aq.off + 2, none⟩ = some (.slice A2 n2 c2) ∧ PL w A2 n2 c2 (ps.getD i plz).s := by
 have hl : i < ps.length := by have := Kd.C_len h; rw [List.length_map] at this; omega
 obtain ⟨ad, aq, A2, c2, e, e2, h1, h2, h3, h4, h5⟩ := cells_T25 h i hi
 rw [rd_s25 hl] at h1 h2 h3 h4 h5
 have e3 : (ps.getD i plz).s25.f2.length = (ps.getD i plz).s.length := ints_length _
 rw [e3] at h3 h4 h5
 exact ⟨ad, aq, A2, _, c2, e, e2, h1, h2, h3, C_nats h5, h4, rfl⟩
set_option maxHeartbeats 4000000 in
set_option maxRecDepth 100000 in
theorem Restore_bad (l : List S25) (A : Option Addr) (n cap : Nat) (w : World) (hC : Kd.C k25 w A n l) (hn : 1 ≤ n ∧ n ≤ 13) (b : Nat) (hb : b < n) (hpre : ∀ i, i < b → chk l i = 0) (hbad : chk l b ≠ 0) :
    Calls Try.prog 40 #[.slice A n cap] w fun e w' => e = .returned (.tuple #[.agg #[.int .i64 0, .int .i64 0, .slice none 0 0], .int .i64 ((chk l b : Nat) : Int)]) ∧ Below w.heap.size w w' := by
 have hu25 := Try.underlying25
 have HC := Aside0.mk hC
 have HPR := Aside0.mk hpre
 have t1 : ((n : Int) == 0) = false := by rw [beq_eq_false_iff_ne]; omega
 have t2 : decide ((13 : Int) < (n : Int)) = false := decide_eq_false (by omega)
 have t3 : decide (13 < n) = false := decide_eq_false (by omega)
 have t4 : (n == 0) = false := by rw [beq_eq_false_iff_ne]; omega
 obtain ⟨c, hc⟩ : ∃ c, chk l b = c := ⟨_, rfl⟩
 rw [hc] at hbad ⊢
 have HBC := Aside0.mk hc
 have t5 : ((c : Int) != 0) = true := by rw [bne_iff_ne]; omega
 clear hC hpre hbad hc
 go_enter Try.func40, Try.ntmps40
 go_wp2_with (first | ((with_reducible refine gate_dst (N := 2) rfl ?_); refine box_event ?hg (N := 2) ?hd (cs := #[.int .i64 0, .int .i64 0, .slice none 0 0]) (t := 25) ?hr ?_; (case hd => rfl); (case hg => rfl); (case hr => first | (go_simp; done) | (go_simp; rfl)); intro gR hg_ w1 hm_ hb_; have R1 := Aside0.mk (hm_); have B1 := Aside0.mk (hb_); have GR := Aside0.mk (show w.heap.size ≤ gR by rw [hg_]; exact Nat.le_refl _); clear hm_ hb_ hg_))
 go_loopw [22] (fun iv wr => ∃ (i : Nat), i ≤ b ∧ iv = .int .i64 (i : Int) ∧ Aside0 (wr.heap[gR]? = some (.cells #[.int .i64 0, .int .i64 0, .slice none 0 0] 25 (0, 0))) ∧ Aside0 (Below w.heap.size w wr)) (fun iv _ => b - (intOf iv).toNat)
 case atStart => exact ⟨0, Nat.zero_le _, rfl, R1, B1⟩
 case round =>
  clear R1 B1
  obtain ⟨i, hi, rfl, RI, BI⟩ := hrel
  have hlt : i < n := by omega
  have c1 : decide ((i : Int) < (n : Int)) = true := decide_eq_true (by omega)
  have i1 : ((i : Int) < (n : Int)) = True := eq_true (by omega)
  obtain ⟨ad, aq, A2, c2, rfl, haq, y0, y1, y2, hc2, hC2⟩ := cells_T25 (Kd.C_below HC.out BI.out) i hlt
  obtain ⟨x, hx⟩ : ∃ x, (rd_T25 l (i : Int)).f0 = x := ⟨_, rfl⟩
  obtain ⟨y, hy⟩ : ∃ y, (rd_T25 l (i : Int)).f1 = y := ⟨_, rfl⟩
  obtain ⟨m, hm⟩ : ∃ m, (rd_T25 l (i : Int)).f2.length = m := ⟨_, rfl⟩
  have HM : Aside0 (m < 9223372036854775808) := ⟨by have := Kd.C_max hC2; omega⟩
  have hck : checkE x y m = chk l i := by unfold chk; rw [hx, hy, hm]
  rw [hx] at y0
  rw [hy] at y1
  rw [hm] at y2 hc2
  clear hC2 hx hy hm
  by_cases hib : i < b
  ·have HE : Aside0 (checkE x y m = 0) := ⟨by rw [hck]; exact HPR.out i hib⟩
   clear hck hc2
   go_wp2_with (first | ((with_reducible refine gate_dst (N := 5) rfl ?_); refine box_event ?hg (N := 5) ?hd (cs := #[.int .i64 0, .int .i64 0, .slice none 0 0]) (t := 25) ?hr ?_; (case hd => rfl); (case hg => rfl); (case hr => first | (go_simp; done) | (go_simp; rfl)); intro g5 hg_ w2 hm_ hb_; have R2 := Aside0.mk (blk_below RI.out hb_); have Z2 := Aside0.mk (hm_); have B2 := Aside0.mk (below_step BI.out hb_); have G5 := Aside0.mk (show w.heap.size ≤ g5 by rw [hg_]; exact below_size BI.out); have NR5 := Aside0.mk (show gR ≠ g5 by rw [hg_]; have := blk_lt RI.out; omega); clear hm_ hb_ hg_) | ((with_reducible refine gate_store (p := 5) rfl ?_); refine storeP_event rfl rfl rfl g5 x y A2 m c2 _ _ _ rfl rfl Z2.out ?_; intro w3 hm_ hst_ hbl_; have Z3 := Aside0.mk (hm_); have R3 := Aside0.mk ((hst_ gR NR5.out).trans R2.out); have B3 := Aside0.mk (B2.out.trans (hbl_ _ G5.out)); clear Z2 R2 B2; have p0 := (blk_cell Z3.out 0).trans rfl; have p1 := (blk_cell Z3.out 1).trans rfl; have p2 := (blk_cell Z3.out 2).trans rfl; clear hm_ hst_ hbl_) | (go_at_call 51; refine (Check_calls x y A2 m c2 _ HM.out).mono ?_; rw [HE.out]; rintro e w4 ⟨rfl, hb⟩; have R4 := Aside0.mk (blk_below R3.out hb); have B4 := Aside0.mk (below_step B3.out hb); clear hb p0 p1 p2 R3 B3 Z3))
   go_roundw
   case measure => simp [intOf]; omega
   case rel => exact ⟨i + 1, by omega, by go_num, R4, B4⟩
  ·obtain rfl : i = b := by omega
   have HE : Aside0 (checkE x y m = c) := ⟨by rw [hck]; exact HBC.out⟩
   clear hck hc2
   go_wp2_with (first | ((with_reducible refine gate_dst (N := 5) rfl ?_); refine box_event ?hg (N := 5) ?hd (cs := #[.int .i64 0, .int .i64 0, .slice none 0 0]) (t := 25) ?hr ?_; (case hd => rfl); (case hg => rfl); (case hr => first | (go_simp; done) | (go_simp; rfl)); intro g5 hg_ w2 hm_ hb_; have R2 := Aside0.mk (blk_below RI.out hb_); have Z2 := Aside0.mk (hm_); have B2 := Aside0.mk (below_step BI.out hb_); have G5 := Aside0.mk (show w.heap.size ≤ g5 by rw [hg_]; exact below_size BI.out); have NR5 := Aside0.mk (show gR ≠ g5 by rw [hg_]; have := blk_lt RI.out; omega); clear hm_ hb_ hg_) | ((with_reducible refine gate_store (p := 5) rfl ?_); refine storeP_event rfl rfl rfl g5 x y A2 m c2 _ _ _ rfl rfl Z2.out ?_; intro w3 hm_ hst_ hbl_; have Z3 := Aside0.mk (hm_); have R3 := Aside0.mk ((hst_ gR NR5.out).trans R2.out); have B3 := Aside0.mk (B2.out.trans (hbl_ _ G5.out)); clear Z2 R2 B2; have p0 := (blk_cell Z3.out 0).trans rfl; have p1 := (blk_cell Z3.out 1).trans rfl; have p2 := (blk_cell Z3.out 2).trans rfl; clear hm_ hst_ hbl_) | (go_at_call 51; refine (Check_calls x y A2 m c2 _ HM.out).mono ?_; rw [HE.out]; rintro e w4 ⟨rfl, hb⟩; have R4 := Aside0.mk (blk_below R3.out hb); have B4 := Aside0.mk (below_step B3.out hb); clear hb p0 p1 p2 R3 B3 Z3) | ((with_reducible refine gate_store (p := 2) rfl ?_); refine storeP_event rfl rfl rfl gR 0 0 none 0 0 _ _ _ rfl rfl R4.out ?_; intro wz hm_ hst_ hbl_; have Rz := Aside0.mk (hm_); have Bz := Aside0.mk (B4.out.trans (hbl_ _ GR.out)); clear hm_ hst_ hbl_))
   refine bodyPost_ret (results_ct rfl _ _ gR 25 #[.int .i64 0, .int .i64 0, .slice none 0 0] (0, 0) _ rfl Rz.out Try.underlying25 rfl (by kernel_rfl)) rfl ?_
   exact ⟨rfl, Bz.out⟩
set_option maxHeartbeats 8000000 in
set_option maxRecDepth 100000 in
theorem Restore_main (ps : List Pl) (A : Option Addr) (n cap : Nat) (w : World) (hC : Kd.C k25 w A n (ps.map Pl.s25)) (hn : 1 ≤ n ∧ n ≤ 13) (hok : ∀ i, i < n → (Pl.mk (ps.getD i plz).w (ps.getD i plz).h (ps.getD i plz).s).ok) :
    Calls Try.prog 40 #[.slice A n cap] w fun e w' => ((∀ k, k < n → (rsts ps k).1 = 0) → ∃ v, e = .returned (.tuple #[.agg #[.int .i64 ((rsts ps (n - 1)).2.w : Int), .int .i64 ((rsts ps (n - 1)).2.h : Int), v], .int .i64 0]) ∧ (nat .u32).R 50 w' w.heap.size (fun _ => True) v (rsts ps (n - 1)).2.s) ∧ ((∃ k, k < n ∧ (rsts ps k).1 ≠ 0) → e = .returned (.tuple #[.agg #[.int .i64 0, .int .i64 0, .slice none 0 0], .int .i64 141])) ∧ Below w.heap.size w w' := by
 have hu25 := Try.underlying25
 have HC := Aside0.mk hC
 have HOK := Aside0.mk hok
 have HPL : Aside0 (ps.length = n) := ⟨by have := Kd.C_len hC; rwa [List.length_map] at this⟩
 have t1 : ((n : Int) == 0) = false := by rw [beq_eq_false_iff_ne]; omega
 have t2 : decide ((13 : Int) < (n : Int)) = false := decide_eq_false (by omega)
 have t3 : decide (13 < n) = false := decide_eq_false (by omega)
 have t4 : (n == 0) = false := by rw [beq_eq_false_iff_ne]; omega
 clear hC hok
 go_enter Try.func40, Try.ntmps40
 go_wp2_with (first | ((with_reducible refine gate_dst (N := 2) rfl ?_); refine box_event ?hg (N := 2) ?hd (cs := #[.int .i64 0, .int .i64 0, .slice none 0 0]) (t := 25) ?hr ?_; (case hd => rfl); (case hg => rfl); (case hr => first | (go_simp; done) | (go_simp; rfl)); intro gR hg_ w1 hm_ hb_; have R1 := Aside0.mk (hm_); have B1 := Aside0.mk (hb_); have GR := Aside0.mk (show w.heap.size ≤ gR by rw [hg_]; exact Nat.le_refl _); clear hm_ hb_ hg_))
 go_loopw [22] (fun iv wr => ∃ (i : Nat), i ≤ n ∧ iv = .int .i64 (i : Int) ∧ Aside0 (wr.heap[gR]? = some (.cells #[.int .i64 0, .int .i64 0, .slice none 0 0] 25 (0, 0))) ∧ Aside0 (Below w.heap.size w wr)) (fun iv _ => n - (intOf iv).toNat)
 case atStart => exact ⟨0, Nat.zero_le _, rfl, R1, B1⟩
 case round =>
  clear R1 B1
  obtain ⟨i, hi, rfl, RI, BI⟩ := hrel
  by_cases hlt : i < n
  ·have c1 : decide ((i : Int) < (n : Int)) = true := decide_eq_true (by omega)
   have i1 : ((i : Int) < (n : Int)) = True := eq_true (by omega)
   obtain ⟨q, hq⟩ : ∃ q, ps.getD i plz = q := ⟨_, rfl⟩
   obtain ⟨ad, aq, A2, m, c2, rfl, haq, y0, y1, y2, hQL⟩ := cells_s25 (Kd.C_below HC.out BI.out) i hlt
   rw [hq] at y0 y1 hQL
   have hqo := HOK.out i hlt
   rw [hq] at hqo
   obtain ⟨x, hx⟩ : ∃ x : Int, (q.w : Int) = x := ⟨_, rfl⟩
   obtain ⟨y, hy⟩ : ∃ y : Int, (q.h : Int) = y := ⟨_, rfl⟩
   have HM : Aside0 (m < 9223372036854775808) := ⟨hQL.lt⟩
   have HE : Aside0 (checkE x y m = 0) := ⟨by rw [← hx, ← hy, ← hQL.2.2]; exact hqo.checkE⟩
   rw [hx] at y0
   rw [hy] at y1
   clear hQL hqo hx hy hq
   go_wp2_with (first | ((with_reducible refine gate_dst (N := 5) rfl ?_); refine box_event ?hg (N := 5) ?hd (cs := #[.int .i64 0, .int .i64 0, .slice none 0 0]) (t := 25) ?hr ?_; (case hd => rfl); (case hg => rfl); (case hr => first | (go_simp; done) | (go_simp; rfl)); intro g5 hg_ w2 hm_ hb_; have R2 := Aside0.mk (blk_below RI.out hb_); have Z2 := Aside0.mk (hm_); have B2 := Aside0.mk (below_step BI.out hb_); have G5 := Aside0.mk (show w.heap.size ≤ g5 by rw [hg_]; exact below_size BI.out); have NR5 := Aside0.mk (show gR ≠ g5 by rw [hg_]; have := blk_lt RI.out; omega); clear hm_ hb_ hg_) | ((with_reducible refine gate_store (p := 5) rfl ?_); refine storeP_event rfl rfl rfl g5 x y A2 m c2 _ _ _ rfl rfl Z2.out ?_; intro w3 hm_ hst_ hbl_; have Z3 := Aside0.mk (hm_); have R3 := Aside0.mk ((hst_ gR NR5.out).trans R2.out); have B3 := Aside0.mk (B2.out.trans (hbl_ _ G5.out)); clear Z2 R2 B2; have p0 := (blk_cell Z3.out 0).trans rfl; have p1 := (blk_cell Z3.out 1).trans rfl; have p2 := (blk_cell Z3.out 2).trans rfl; clear hm_ hst_ hbl_) | (go_at_call 51; refine (Check_calls x y A2 m c2 _ HM.out).mono ?_; rw [HE.out]; rintro e w4 ⟨rfl, hb⟩; have R4 := Aside0.mk (blk_below R3.out hb); have B4 := Aside0.mk (below_step B3.out hb); clear hb p0 p1 p2 R3 B3 Z3))
   go_roundw
   case measure => simp [intOf]; omega
   case rel => exact ⟨i + 1, by omega, by go_num, R4, B4⟩
  ·obtain rfl : i = n := by omega
   have c1 : decide ((i : Int) < (i : Int)) = false := decide_eq_false (by omega)
   obtain ⟨j, rfl⟩ : ∃ j, i = j + 1 := ⟨i - 1, by omega⟩
   have hj : j + 1 - 1 = j := by omega
   have hji : j < j + 1 := by omega
   have e1 : wrap64 ((j : Int) + 1 - 1) = (j : Int) := by rw [Int.add_sub_cancel]; exact w64 (by omega) (by omega)
   have e2 : wrap64 ((j : Int) - 1) = (j : Int) - 1 := w64 (by omega) (by omega)
   have i1 : ((j : Int) < (j : Int) + 1) = True := eq_true (by omega)
   obtain ⟨q, hq⟩ : ∃ q, ps.getD j plz = q := ⟨_, rfl⟩
   obtain ⟨ad, aq, A2, m, c2, rfl, haq, y0_, y1_, y2_, hQL⟩ := cells_s25 HC.out j hji
   rw [hq] at y0_ y1_ hQL
   have y0 := pw_cell_below BI.out y0_
   have y1 := pw_cell_below BI.out y1_
   have y2 := pw_cell_below BI.out y2_
   clear y0_ y1_ y2_
   have hqo := HOK.out j hji
   rw [hq] at hqo
   have HQO := Aside0.mk hqo
   have HQL := Aside0.mk hQL
   have HR0 : Aside0 (rsts ps 0 = (0, q)) := ⟨by rw [← hq, ← hj, ← HPL.out]; rfl⟩
   have HJ1 := Aside0.mk hj
   clear hQL hqo hq hj
   go_wp2_with (first | ((with_reducible refine gate_dst (N := 8) rfl ?_); refine box_event ?hg (N := 8) ?hd (cs := #[.int .i64 0, .int .i64 0, .slice none 0 0]) (t := 25) ?hr ?_; (case hd => rfl); (case hg => rfl); (case hr => first | (go_simp; done) | (go_simp; rfl)); intro g8 hg_ w5 hm_ hb_; have R5 := Aside0.mk (blk_below RI.out hb_); have Z5 := Aside0.mk (hm_); have B5 := Aside0.mk (below_step BI.out hb_); have G8 := Aside0.mk (show w.heap.size ≤ g8 by rw [hg_]; exact below_size BI.out); have NR8 := Aside0.mk (show gR ≠ g8 by rw [hg_]; have := blk_lt RI.out; omega); clear hm_ hb_ hg_) | ((with_reducible refine gate_store (p := 8) rfl ?_); refine storeP_event rfl rfl rfl g8 (q.w : Int) (q.h : Int) A2 m c2 _ _ _ rfl rfl Z5.out ?_; intro w6 hm_ hst_ hbl_; have Z6 := Aside0.mk (hm_); have R6 := Aside0.mk ((hst_ gR NR8.out).trans R5.out); have B6 := Aside0.mk (B5.out.trans (hbl_ _ G8.out)); clear Z5 R5 B5; have p0 := (blk_cell Z6.out 0).trans rfl; have p1 := (blk_cell Z6.out 1).trans rfl; have p2 := (blk_cell Z6.out 2).trans rfl; clear hm_ hst_ hbl_) | (go_at_call 68; refine (Crop_whole q.w q.h q.s A2 m c2 _ HQO.out (HQL.out.below B6.out)).mono ?_; rintro e w7 ⟨v7, rfl, hR, hb⟩; obtain ⟨A7, c7, hv7⟩ := Kd.R_slice hR; obtain ⟨n7, hn7⟩ : ∃ n7, q.s.length = n7 := ⟨_, rfl⟩; rw [hn7] at hv7; subst hv7; have V7 := Aside0.mk (Kd.R_lower hR B6.out.size); have R7 := Aside0.mk (blk_below R6.out hb); have B7 := Aside0.mk (below_step B6.out hb); clear hR hn7 hb p0 p1 p2 R6 B6 Z6) | ((with_reducible refine gate_dst (N := 9) rfl ?_); refine box_event ?hg (N := 9) ?hd (cs := #[.int .i64 0, .int .i64 0, .slice none 0 0]) (t := 25) ?hr ?_; (case hd => rfl); (case hg => rfl); (case hr => first | (go_simp; done) | (go_simp; rfl)); intro g9 hg_ w8 hm_ hb_; have R8 := Aside0.mk (blk_below R7.out hb_); have Z8 := Aside0.mk (hm_); have B8 := Aside0.mk (below_step B7.out hb_); have V8 := Aside0.mk (Kd.R_below V7.out hb_); have G9 := Aside0.mk (show w.heap.size ≤ g9 by rw [hg_]; exact below_size B7.out); have NR9 := Aside0.mk (show gR ≠ g9 by rw [hg_]; have := blk_lt R7.out; omega); clear hm_ hb_ hg_ R7 B7 V7) | ((with_reducible refine gate_store (p := 9) rfl ?_); refine storeP_event rfl rfl rfl g9 (q.w : Int) (q.h : Int) A7 n7 c7 _ _ _ rfl rfl Z8.out ?_; intro w9 hm_ hst_ hbl_; have Z9 := Aside0.mk (hm_); have R9 := Aside0.mk ((hst_ gR NR9.out).trans R8.out); have B9 := Aside0.mk (B8.out.trans (hbl_ _ G9.out)); have V9 := Aside0.mk (Kd.R_mono (Kd.R_move (Kd.R_types V8.out Z8.out (by decide)) (fun k hk => hst_ k hk.2)) (fun _ _ => trivial)); clear Z8 R8 B8 V8; clear hm_ hst_ hbl_))
   clear y0 y1 y2 RI BI e1 e2 haq
   have HJI := Aside0.mk hji
   go_loopw [7, 10] (fun jv ev wr => ∃ (k : Nat) (c : Nat) (p : Pl) (Ap : Option Addr) (np cp : Nat), k ≤ j ∧ (∃ z : Int, jv = .int .i64 z ∧ z = (j : Int) - 1 - (k : Int)) ∧ ev = .int .i64 (c : Int) ∧ Aside0 (rsts ps k = (c, p) ∧ ∀ k', k' < k → (rsts ps k').1 = 0) ∧ Aside0 (wr.heap[gR]? = some (.cells #[.int .i64 0, .int .i64 0, .slice none 0 0] 25 (0, 0))) ∧ Aside0 (Below w.heap.size w wr) ∧ Aside0 (c = 0 → wr.heap[g9]? = some (.cells #[.int .i64 (p.w : Int), .int .i64 (p.h : Int), .slice Ap np cp] 25 (0, 0)) ∧ (nat .u32).R 50 wr w.heap.size (fun _ => True) (.slice Ap np cp) p.s ∧ (Pl.mk p.w p.h p.s).ok)) (fun jv _ _ => ((intOf jv) + 1).toNat)
   case atStart => exact ⟨0, 0, q, A7, n7, c7, Nat.zero_le _, ⟨_, rfl, by simp⟩, rfl, ⟨HR0.out, fun k' hk => absurd hk (Nat.not_lt_zero _)⟩, R9, B9, ⟨fun _ => ⟨Z9.out, V9.out, HQO.out⟩⟩⟩
   case round =>
    clear R9 B9 Z9 V9 HQL
    obtain ⟨k, c, p, Ap, np, cp, hk, ⟨z, rfl, hz⟩, rfl, HK, RI, BI, HP⟩ := hrel
    by_cases hc : c = 0
    ·subst hc
     obtain ⟨ZI, VI, hpo⟩ := HP.out rfl
     have t6 : (((0 : Nat) : Int) == 0) = true := rfl
     have t7 : (((0 : Nat) : Int) != 0) = false := rfl
     by_cases hkj : k < j
     ·obtain ⟨jj, hjj⟩ : ∃ jj : Nat, j - 1 - k = jj := ⟨_, rfl⟩
      obtain rfl : z = (jj : Int) := by omega
      have HZZ := Aside0.mk hz
      have hjn : jj < j + 1 := by omega
      have t5 : decide ((0 : Int) ≤ (jj : Int)) = true := decide_eq_true (by omega)
      have e3 : wrap64 ((jj : Int) - 1) = (jj : Int) - 1 := w64 (by omega) (by omega)
      have i1 : ((jj : Int) < (j : Int) + 1) = True := eq_true (by omega)
      obtain ⟨q', hq'⟩ : ∃ q', ps.getD jj plz = q' := ⟨_, rfl⟩
      obtain ⟨ad, aq, A2, m, c2, hA, haq, y0_, y1_, y2_, hQL⟩ := cells_s25 HC.out jj hjn
      injection hA with hA
      subst hA
      rw [hq'] at y0_ y1_ hQL
      have y0 := pw_cell_below BI.out y0_
      have y1 := pw_cell_below BI.out y1_
      have y2 := pw_cell_below BI.out y2_
      clear y0_ y1_ y2_
      have hqo := HOK.out jj hjn
      rw [hq'] at hqo
      have HSU : Aside0 (rsts ps (k + 1) = if hf q'.w = p.w ∧ hf q'.h = p.h then (0, ⟨q'.w, q'.h, joiS p.w p.h q'.w q'.h p.s q'.s⟩) else (141, p)) := ⟨by
       have e9 : ps.length - 2 - k = jj := by rw [HPL.out]; omega
       rw [rsts, e9, hq', HK.out.1]⟩
      have HZ0 : Aside0 (∀ k', k' < k + 1 → (rsts ps k').1 = 0) := ⟨fun k' hk' => by
       by_cases h9 : k' < k
       ·exact HK.out.2 k' h9
       ·obtain rfl : k' = k := by omega
        rw [HK.out.1]⟩
      have ZI := Aside0.mk ZI
      have VI := Aside0.mk VI
      obtain ⟨n9, hcp, hCP⟩ := Kd.R_reads' VI.out
      have HPN := Aside0.mk n9.symm
      have HCP := Aside0.mk hcp
      have CPI : Aside0 ((nat .u32).C wr Ap np p.s) := ⟨by rw [← n9] at hCP; exact hCP⟩
      have HPO := Aside0.mk hpo
      have HQO := Aside0.mk hqo
      have HQL := Aside0.mk hQL
      have HKJ := Aside0.mk hkj
      clear n9 hcp hCP hpo hqo hQL hq' HP HK hz hjj
      by_cases hform : hf q'.w = p.w ∧ hf q'.h = p.h
      ·have HW := Aside0.mk hform.1
       have HH := Aside0.mk hform.2
       have HSV : Aside0 (rsts ps (k + 1) = (0, ⟨q'.w, q'.h, joiS p.w p.h q'.w q'.h p.s q'.s⟩)) := ⟨by rw [HSU.out, if_pos hform]⟩
       clear hform HSU
       go_upto_region 16 with (fail)
       have hbD : Below wr.heap.size wr wr.drew := below_drew1 (Below.refl _ _)
       have ZD := Aside0.mk (blk_below ZI.out hbD)
       have RD := Aside0.mk (blk_below RI.out hbD)
       have BD := Aside0.mk (below_step BI.out hbD)
       have HQD := Aside0.mk (HQL.out.below BD.out)
       have CPD := Aside0.mk (Kd.C_below CPI.out hbD)
       have Y0 : Aside0 (wr.drew.cell? aq = some (.int .i64 (q'.w : Int))) := ⟨y0⟩
       have Y1 : Aside0 (wr.drew.cell? ⟨aq.block, aq.off + 1, none⟩ = some (.int .i64 (q'.h : Int))) := ⟨y1⟩
       have Y2 : Aside0 (wr.drew.cell? ⟨aq.block, aq.off + 2, none⟩ = some (.slice A2 m c2)) := ⟨y2⟩
       clear hbD y0 y1 y2 RI BI ZI VI
       refine start_ (n := 11) (S := fun w' => w'.cell? ⟨g9, 0, none⟩ = some (.int .i64 (p.w : Int)) ∧ w'.cell? ⟨g9, 1, none⟩ = some (.int .i64 (p.h : Int)) ∧ w'.cell? ⟨g9, 2, none⟩ = some (.slice Ap np cp) ∧ w'.cell? aq = some (.int .i64 (q'.w : Int)) ∧ w'.cell? ⟨aq.block, aq.off + 1, none⟩ = some (.int .i64 (q'.h : Int)) ∧ w'.cell? ⟨aq.block, aq.off + 2, none⟩ = some (.slice A2 m c2)) (ds := [5, 9]) #[ff_,ff_,ff_,ff_,ff_,ff_,ff_,ff_,ff_,ff_,ff_] (by kernel_rfl) rfl rfl ⟨(blk_cell ZD.out 0).trans rfl, (blk_cell ZD.out 1).trans rfl, (blk_cell ZD.out 2).trans rfl, Y0.out, Y1.out, Y2.out⟩ (fun hHeld => ?_)
       generalize wr.drew = wd at *
       refine pure_ (i := 1) (N := some 62) (v := ?_) (a' := ?_) #[ff_,tt_,ff_,ff_,ff_,ff_,ff_,ff_,ff_,ff_,ff_] rfl rfl (by kernel_rfl) (fun _ _ _ h => h) (Or.inl ⟨by rfl, ?_⟩) ?_ ?_
       rotate_left
       ·intro w'
        go_simp
        with_reducible rfl
       rotate_left
       ·simp only [Act.put, List.setIfInBounds_toArray, List.set_cons_zero, List.set_cons_succ, i64_w, i32_w]
        rfl
       refine pure_ (i := 2) (N := some 63) (v := ?_) (a' := ?_) #[ff_,tt_,tt_,ff_,ff_,ff_,ff_,ff_,ff_,ff_,ff_] rfl rfl (by kernel_rfl) (fun _ _ _ h => h) (Or.inl ⟨by rfl, ?_⟩) ?_ ?_
       rotate_left
       ·intro w'
        go_simp
        with_reducible rfl
       rotate_left
       ·simp only [Act.put, List.setIfInBounds_toArray, List.set_cons_zero, List.set_cons_succ, i64_w, i32_w]
        rfl
       refine pure_ (i := 3) (N := some 64) (v := ?_) (a' := ?_) #[ff_,tt_,tt_,tt_,ff_,ff_,ff_,ff_,ff_,ff_,ff_] rfl rfl (by kernel_rfl) (fun _ _ _ h => h) (Or.inl ⟨by rfl, ?_⟩) ?_ ?_
       rotate_left
       ·intro w'
        go_simp
        with_reducible rfl
       rotate_left
       ·simp only [Act.put, List.setIfInBounds_toArray, List.set_cons_zero, List.set_cons_succ, i64_w, i32_w]
        rfl
       refine take_ (i := 0) (N := some 61) (v := ?_) (a' := ?_) #[tt_,tt_,tt_,tt_,ff_,ff_,ff_,ff_,ff_,ff_,ff_] rfl rfl (by kernel_rfl) (fun _ _ _ h => h) (Or.inl ⟨by rfl, ?_⟩) hHeld ?_ ?_
       rotate_left
       ·rintro w' ⟨s0, s1, s2, s3, s4, s5⟩
        go_simp
        with_reducible rfl
       rotate_left
       ·simp only [Act.put, List.setIfInBounds_toArray, List.set_cons_zero, List.set_cons_succ, i64_w, i32_w]
        rfl
       refine take_ (i := 4) (N := some 65) (v := ?_) (a' := ?_) #[tt_,tt_,tt_,tt_,tt_,ff_,ff_,ff_,ff_,ff_,ff_] rfl rfl (by kernel_rfl) (fun _ _ _ h => h) (Or.inl ⟨by rfl, ?_⟩) hHeld ?_ ?_
       rotate_left
       ·rintro w' ⟨s0, s1, s2, s3, s4, s5⟩
        go_simp
        with_reducible rfl
       rotate_left
       ·simp only [Act.put, List.setIfInBounds_toArray, List.set_cons_zero, List.set_cons_succ, i64_w, i32_w]
        rfl
       refine last_ (i := 5) (N := some 66) #[tt_,tt_,tt_,tt_,tt_,tt_,ff_,ff_,ff_,ff_,ff_] rfl rfl (by kernel_rfl) (by decide) (fun K hK => ?_)
       refine goes_ Try.func33 (by kernel_rfl) rfl #[.agg #[.int .i64 (p.w : Int), .int .i64 (p.h : Int), .slice Ap np cp], .agg #[.int .i64 (q'.w : Int), .int .i64 (q'.h : Int), .slice A2 m c2]] (by rfl) rfl rfl (by (try simp only [List.map_toArray, List.map_cons, List.map_nil]); rfl) ?_
       refine (Join_ok p.w p.h Ap np cp q'.w q'.h A2 m c2 p.s q'.s _ HPO.out HQO.out HPN.out HQD.out.2.2 CPD.out HCP.out HQD.out.1 HW.out HH.out).mono ?_
       rintro e w11 ⟨v11, rfl, hR, hb⟩
       refine ⟨_, rfl, ?_⟩
       obtain ⟨A11, c11, hv11⟩ := Kd.R_slice hR
       obtain ⟨n11, hn11⟩ : ∃ n11, (joiS p.w p.h q'.w q'.h p.s q'.s).length = n11 := ⟨_, rfl⟩
       rw [hn11] at hv11
       subst hv11
       have V11 := Aside0.mk (Kd.R_lower hR BD.out.size)
       have Z11 := Aside0.mk (blk_below ZD.out hb)
       have R11 := Aside0.mk (blk_below RD.out hb)
       have B11 := Aside0.mk (below_step BD.out hb)
       clear hR hn11 hb
       refine hK.out _ _ ?_
       clear hK K
       refine norm_ (a' := ?_) ?_ ?_
       rotate_left
       ·show Act.put _ (some 66) _ = _
        simp only [Act.put, List.setIfInBounds_toArray, List.set_cons_zero, List.set_cons_succ, i64_w, i32_w]
        rfl
       refine pure_ (i := 6) (N := some 60) (v := ?_) (a' := ?_) #[tt_,tt_,tt_,tt_,tt_,tt_,tt_,ff_,ff_,ff_,ff_] rfl rfl (by kernel_rfl) (fun _ _ _ h => h) (Or.inl ⟨by rfl, ?_⟩) ?_ ?_
       rotate_left
       ·intro w'
        go_simp
        with_reducible rfl
       rotate_left
       ·simp only [Act.put, List.setIfInBounds_toArray, List.set_cons_zero, List.set_cons_succ, i64_w, i32_w]
        rfl
       refine pure_ (i := 7) (N := some 67) (v := ?_) (a' := ?_) #[tt_,tt_,tt_,tt_,tt_,tt_,tt_,tt_,ff_,ff_,ff_] rfl rfl (by kernel_rfl) (fun _ _ _ h => h) (Or.inl ⟨by rfl, ?_⟩) ?_ ?_
       rotate_left
       ·intro w'
        go_simp
        with_reducible rfl
       rotate_left
       ·simp only [Act.put, List.setIfInBounds_toArray, List.set_cons_zero, List.set_cons_succ, i64_w, i32_w]
        rfl
       refine pure_ (i := 8) (N := some 68) (v := ?_) (a' := ?_) #[tt_,tt_,tt_,tt_,tt_,tt_,tt_,tt_,tt_,ff_,ff_] rfl rfl (by kernel_rfl) (fun _ _ _ h => h) (Or.inl ⟨by rfl, ?_⟩) ?_ ?_
       rotate_left
       ·intro w'
        go_simp
        with_reducible rfl
       rotate_left
       ·simp only [Act.put, List.setIfInBounds_toArray, List.set_cons_zero, List.set_cons_succ, i64_w, i32_w]
        rfl
       refine last_ (i := 9) (N := none) #[tt_,tt_,tt_,tt_,tt_,tt_,tt_,tt_,tt_,tt_,ff_] rfl rfl (by kernel_rfl) (by decide) (fun K hK => ?_)
       refine storeP_step (by rfl) rfl rfl g9 (q'.w : Int) (q'.h : Int) A11 n11 c11 _ _ _ rfl rfl Z11.out ?_
       intro w12 hm_ hst_ hbl_
       have Z12 := Aside0.mk (hm_)
       have R12 := Aside0.mk ((hst_ gR NR9.out).trans R11.out)
       have B12 := Aside0.mk (B11.out.trans (hbl_ _ G9.out))
       have V12 := Aside0.mk (Kd.R_mono (Kd.R_move (Kd.R_types V11.out Z11.out (by decide)) (fun k hk => hst_ k hk.2)) (fun _ _ => trivial))
       clear hm_ hst_ hbl_
       refine hK.out _ _ ?_
       clear hK K
       refine pure_ (i := 10) (N := some 10) (v := ?_) (a' := ?_) #[tt_,tt_,tt_,tt_,tt_,tt_,tt_,tt_,tt_,tt_,tt_] rfl rfl (by kernel_rfl) (fun _ _ _ h => h) (Or.inl ⟨by rfl, ?_⟩) ?_ ?_
       rotate_left
       ·intro w'
        go_simp
        with_reducible rfl
       rotate_left
       ·simp only [Act.put, List.setIfInBounds_toArray, List.set_cons_zero, List.set_cons_succ, i64_w, i32_w]
        rfl
       refine done_ (by kernel_rfl) ?_
       try go_wp2
       go_roundw
       case measure => first | (simp [intOf]; done) | (simp [intOf]; omega)
       case rel => exact ⟨k + 1, 0, ⟨q'.w, q'.h, joiS p.w p.h q'.w q'.h p.s q'.s⟩, A11, n11, c11, by omega, ⟨_, rfl, by have := HZZ.out; omega⟩, rfl, ⟨HSV.out, HZ0.out⟩, R12, B12, ⟨fun _ => ⟨Z12.out, V12.out, joi_ok HQO.out⟩⟩⟩
      ·have HSV : Aside0 (rsts ps (k + 1) = (141, p)) := ⟨by rw [HSU.out, if_neg hform]⟩
       have HJ := Aside0.mk (fun W => Join_form p.w p.h Ap np cp q'.w q'.h A2 m c2 W (by have := HPO.out.checkE; rwa [HPN.out] at this) (by have := HQO.out.checkE; rwa [HQL.out.2.2] at this) hform)
       clear hform HSU
       go_upto_region 16 with (fail)
       have hbD : Below wr.heap.size wr wr.drew := below_drew1 (Below.refl _ _)
       have ZD := Aside0.mk (blk_below ZI.out hbD)
       have RD := Aside0.mk (blk_below RI.out hbD)
       have BD := Aside0.mk (below_step BI.out hbD)
       have HQD := Aside0.mk (HQL.out.below BD.out)
       have CPD := Aside0.mk (Kd.C_below CPI.out hbD)
       have Y0 : Aside0 (wr.drew.cell? aq = some (.int .i64 (q'.w : Int))) := ⟨y0⟩
       have Y1 : Aside0 (wr.drew.cell? ⟨aq.block, aq.off + 1, none⟩ = some (.int .i64 (q'.h : Int))) := ⟨y1⟩
       have Y2 : Aside0 (wr.drew.cell? ⟨aq.block, aq.off + 2, none⟩ = some (.slice A2 m c2)) := ⟨y2⟩
       clear hbD y0 y1 y2 RI BI ZI VI
       refine start_ (n := 11) (S := fun w' => w'.cell? ⟨g9, 0, none⟩ = some (.int .i64 (p.w : Int)) ∧ w'.cell? ⟨g9, 1, none⟩ = some (.int .i64 (p.h : Int)) ∧ w'.cell? ⟨g9, 2, none⟩ = some (.slice Ap np cp) ∧ w'.cell? aq = some (.int .i64 (q'.w : Int)) ∧ w'.cell? ⟨aq.block, aq.off + 1, none⟩ = some (.int .i64 (q'.h : Int)) ∧ w'.cell? ⟨aq.block, aq.off + 2, none⟩ = some (.slice A2 m c2)) (ds := [5, 9]) #[ff_,ff_,ff_,ff_,ff_,ff_,ff_,ff_,ff_,ff_,ff_] (by kernel_rfl) rfl rfl ⟨(blk_cell ZD.out 0).trans rfl, (blk_cell ZD.out 1).trans rfl, (blk_cell ZD.out 2).trans rfl, Y0.out, Y1.out, Y2.out⟩ (fun hHeld => ?_)
       generalize wr.drew = wd at *
       refine pure_ (i := 1) (N := some 62) (v := ?_) (a' := ?_) #[ff_,tt_,ff_,ff_,ff_,ff_,ff_,ff_,ff_,ff_,ff_] rfl rfl (by kernel_rfl) (fun _ _ _ h => h) (Or.inl ⟨by rfl, ?_⟩) ?_ ?_
       rotate_left
       ·intro w'
        go_simp
        with_reducible rfl
       rotate_left
       ·simp only [Act.put, List.setIfInBounds_toArray, List.set_cons_zero, List.set_cons_succ, i64_w, i32_w]
        rfl
       refine pure_ (i := 2) (N := some 63) (v := ?_) (a' := ?_) #[ff_,tt_,tt_,ff_,ff_,ff_,ff_,ff_,ff_,ff_,ff_] rfl rfl (by kernel_rfl) (fun _ _ _ h => h) (Or.inl ⟨by rfl, ?_⟩) ?_ ?_
       rotate_left
       ·intro w'
        go_simp
        with_reducible rfl
       rotate_left
       ·simp only [Act.put, List.setIfInBounds_toArray, List.set_cons_zero, List.set_cons_succ, i64_w, i32_w]
        rfl
       refine pure_ (i := 3) (N := some 64) (v := ?_) (a' := ?_) #[ff_,tt_,tt_,tt_,ff_,ff_,ff_,ff_,ff_,ff_,ff_] rfl rfl (by kernel_rfl) (fun _ _ _ h => h) (Or.inl ⟨by rfl, ?_⟩) ?_ ?_
       rotate_left
       ·intro w'
        go_simp
        with_reducible rfl
       rotate_left
       ·simp only [Act.put, List.setIfInBounds_toArray, List.set_cons_zero, List.set_cons_succ, i64_w, i32_w]
        rfl
       refine take_ (i := 0) (N := some 61) (v := ?_) (a' := ?_) #[tt_,tt_,tt_,tt_,ff_,ff_,ff_,ff_,ff_,ff_,ff_] rfl rfl (by kernel_rfl) (fun _ _ _ h => h) (Or.inl ⟨by rfl, ?_⟩) hHeld ?_ ?_
       rotate_left
       ·rintro w' ⟨s0, s1, s2, s3, s4, s5⟩
        go_simp
        with_reducible rfl
       rotate_left
       ·simp only [Act.put, List.setIfInBounds_toArray, List.set_cons_zero, List.set_cons_succ, i64_w, i32_w]
        rfl
       refine take_ (i := 4) (N := some 65) (v := ?_) (a' := ?_) #[tt_,tt_,tt_,tt_,tt_,ff_,ff_,ff_,ff_,ff_,ff_] rfl rfl (by kernel_rfl) (fun _ _ _ h => h) (Or.inl ⟨by rfl, ?_⟩) hHeld ?_ ?_
       rotate_left
       ·rintro w' ⟨s0, s1, s2, s3, s4, s5⟩
        go_simp
        with_reducible rfl
       rotate_left
       ·simp only [Act.put, List.setIfInBounds_toArray, List.set_cons_zero, List.set_cons_succ, i64_w, i32_w]
        rfl
       refine last_ (i := 5) (N := some 66) #[tt_,tt_,tt_,tt_,tt_,tt_,ff_,ff_,ff_,ff_,ff_] rfl rfl (by kernel_rfl) (by decide) (fun K hK => ?_)
       refine goes_ Try.func33 (by kernel_rfl) rfl #[.agg #[.int .i64 (p.w : Int), .int .i64 (p.h : Int), .slice Ap np cp], .agg #[.int .i64 (q'.w : Int), .int .i64 (q'.h : Int), .slice A2 m c2]] (by rfl) rfl rfl (by (try simp only [List.map_toArray, List.map_cons, List.map_nil]); rfl) ?_
       refine (HJ.out _).mono ?_
       rintro e w11 ⟨rfl, hb⟩
       refine ⟨_, rfl, ?_⟩
       have Z11 := Aside0.mk (blk_below ZD.out hb)
       have R11 := Aside0.mk (blk_below RD.out hb)
       have B11 := Aside0.mk (below_step BD.out hb)
       clear hb
       refine hK.out _ _ ?_
       clear hK K
       refine norm_ (a' := ?_) ?_ ?_
       rotate_left
       ·show Act.put _ (some 66) _ = _
        simp only [Act.put, List.setIfInBounds_toArray, List.set_cons_zero, List.set_cons_succ, i64_w, i32_w]
        rfl
       refine pure_ (i := 6) (N := some 60) (v := ?_) (a' := ?_) #[tt_,tt_,tt_,tt_,tt_,tt_,tt_,ff_,ff_,ff_,ff_] rfl rfl (by kernel_rfl) (fun _ _ _ h => h) (Or.inl ⟨by rfl, ?_⟩) ?_ ?_
       rotate_left
       ·intro w'
        go_simp
        with_reducible rfl
       rotate_left
       ·simp only [Act.put, List.setIfInBounds_toArray, List.set_cons_zero, List.set_cons_succ, i64_w, i32_w]
        rfl
       refine pure_ (i := 7) (N := some 67) (v := ?_) (a' := ?_) #[tt_,tt_,tt_,tt_,tt_,tt_,tt_,tt_,ff_,ff_,ff_] rfl rfl (by kernel_rfl) (fun _ _ _ h => h) (Or.inl ⟨by rfl, ?_⟩) ?_ ?_
       rotate_left
       ·intro w'
        go_simp
        with_reducible rfl
       rotate_left
       ·simp only [Act.put, List.setIfInBounds_toArray, List.set_cons_zero, List.set_cons_succ, i64_w, i32_w]
        rfl
       refine pure_ (i := 8) (N := some 68) (v := ?_) (a' := ?_) #[tt_,tt_,tt_,tt_,tt_,tt_,tt_,tt_,tt_,ff_,ff_] rfl rfl (by kernel_rfl) (fun _ _ _ h => h) (Or.inl ⟨by rfl, ?_⟩) ?_ ?_
       rotate_left
       ·intro w'
        go_simp
        with_reducible rfl
       rotate_left
       ·simp only [Act.put, List.setIfInBounds_toArray, List.set_cons_zero, List.set_cons_succ, i64_w, i32_w]
        rfl
       refine last_ (i := 9) (N := none) #[tt_,tt_,tt_,tt_,tt_,tt_,tt_,tt_,tt_,tt_,ff_] rfl rfl (by kernel_rfl) (by decide) (fun K hK => ?_)
       refine storeP_step (by rfl) rfl rfl g9 0 0 none 0 0 _ _ _ rfl rfl Z11.out ?_
       intro w12 hm_ hst_ hbl_
       have Z12 := Aside0.mk (hm_)
       have R12 := Aside0.mk ((hst_ gR NR9.out).trans R11.out)
       have B12 := Aside0.mk (B11.out.trans (hbl_ _ G9.out))
       clear hm_ hst_ hbl_
       refine hK.out _ _ ?_
       clear hK K
       refine pure_ (i := 10) (N := some 10) (v := ?_) (a' := ?_) #[tt_,tt_,tt_,tt_,tt_,tt_,tt_,tt_,tt_,tt_,tt_] rfl rfl (by kernel_rfl) (fun _ _ _ h => h) (Or.inl ⟨by rfl, ?_⟩) ?_ ?_
       rotate_left
       ·intro w'
        go_simp
        with_reducible rfl
       rotate_left
       ·simp only [Act.put, List.setIfInBounds_toArray, List.set_cons_zero, List.set_cons_succ, i64_w, i32_w]
        rfl
       refine done_ (by kernel_rfl) ?_
       try go_wp2
       go_roundw
       case measure => first | (simp [intOf]; done) | (simp [intOf]; omega)
       case rel => exact ⟨k + 1, 141, p, Ap, np, cp, by omega, ⟨_, rfl, by have := HZZ.out; omega⟩, rfl, ⟨HSV.out, HZ0.out⟩, R12, B12, ⟨fun h9 => absurd h9 (by decide)⟩⟩
     ·obtain rfl : k = j := by omega
      obtain rfl : z = -1 := by omega
      have HK0 : Aside0 (∀ k', k' < k + 1 → (rsts ps k').1 = 0) := ⟨fun k' hk' => by
       by_cases h9 : k' < k
       ·exact HK.out.2 k' h9
       ·obtain rfl : k' = k := by omega
        rw [HK.out.1]⟩
      have p0 := (blk_cell ZI 0).trans rfl
      have p1 := (blk_cell ZI 1).trans rfl
      have p2 := (blk_cell ZI 2).trans rfl
      have VI := Aside0.mk VI
      clear ZI hpo HP hz
      go_wp2_with (((with_reducible refine gate_store (p := 2) rfl ?_); refine storeP_event rfl rfl rfl gR (p.w : Int) (p.h : Int) Ap np cp _ _ _ rfl rfl RI.out ?_; intro w13 hm_ hst_ hbl_; have R13 := Aside0.mk (hm_); have B13 := Aside0.mk (BI.out.trans (hbl_ _ GR.out)); have V13 := Aside0.mk (Kd.R_mono (Kd.R_move (Kd.R_types VI.out RI.out (by decide)) (fun k hk => hst_ k hk.2)) (fun _ _ => trivial)); clear hm_ hst_ hbl_))
      refine bodyPost_ret (results_ct rfl _ _ gR 25 #[.int .i64 (p.w : Int), .int .i64 (p.h : Int), .slice Ap np cp] (0, 0) _ rfl R13.out Try.underlying25 rfl (by kernel_rfl)) rfl ?_
      rw [HJ1.out, HK.out.1]
      exact ⟨fun _ => ⟨_, rfl, V13.out⟩, fun ⟨k', h1, h2⟩ => absurd (HK0.out k' h1) h2, B13.out⟩
    ·have hc1 : c = 141 := by
      have h9 := rsts_err ps k
      rw [HK.out.1] at h9
      rcases h9 with h9 | h9
      ·exact absurd h9 hc
      ·exact h9
     subst hc1
     have t6 : (((141 : Nat) : Int) == 0) = false := rfl
     have t7 : (((141 : Nat) : Int) != 0) = true := rfl
     have HKX : Aside0 (∃ k', k' < j + 1 ∧ (rsts ps k').1 ≠ 0) := ⟨⟨k, by omega, by rw [HK.out.1]; exact hc⟩⟩
     clear hc HP hz
     by_cases hz0 : 0 ≤ z
     ·have t5 : decide ((0 : Int) ≤ z) = true := decide_eq_true hz0
      clear hz0
      go_wp2_with (((with_reducible refine gate_store (p := 2) rfl ?_); refine storeP_event rfl rfl rfl gR 0 0 none 0 0 _ _ _ rfl rfl RI.out ?_; intro wz hm_ hst_ hbl_; have Rz := Aside0.mk (hm_); have Bz := Aside0.mk (BI.out.trans (hbl_ _ GR.out)); clear hm_ hst_ hbl_))
      refine bodyPost_ret (results_ct rfl _ _ gR 25 #[.int .i64 0, .int .i64 0, .slice none 0 0] (0, 0) _ rfl Rz.out Try.underlying25 rfl (by kernel_rfl)) rfl ?_
      exact ⟨fun h9 => (by obtain ⟨k', h1, h2⟩ := HKX.out; exact absurd (h9 k' h1) h2), fun _ => rfl, Bz.out⟩
     ·have t5 : decide ((0 : Int) ≤ z) = false := decide_eq_false hz0
      clear hz0
      go_wp2_with (((with_reducible refine gate_store (p := 2) rfl ?_); refine storeP_event rfl rfl rfl gR 0 0 none 0 0 _ _ _ rfl rfl RI.out ?_; intro wz hm_ hst_ hbl_; have Rz := Aside0.mk (hm_); have Bz := Aside0.mk (BI.out.trans (hbl_ _ GR.out)); clear hm_ hst_ hbl_))
      refine bodyPost_ret (results_ct rfl _ _ gR 25 #[.int .i64 0, .int .i64 0, .slice none 0 0] (0, 0) _ rfl Rz.out Try.underlying25 rfl (by kernel_rfl)) rfl ?_
      exact ⟨fun h9 => (by obtain ⟨k', h1, h2⟩ := HKX.out; exact absurd (h9 k' h1) h2), fun _ => rfl, Bz.out⟩
end Go.Proofs.Ytodlgdpkadkjjaa.A
end
section
set_option linter.unusedVariables false
set_option linter.unusedSimpArgs false
namespace Go.Proofs.Ytodlgdpkadkjjaa.A
open Go.RowKit Go.Shelf Go.Proofs.YtodlgdpkadkjjaaW.PrintWords Go.Proofs.YtodlgdpkadkjjaaW.PrintLast Go.Proofs.YtodlgdpkadkjjaaW.PrintMore Go.Proofs.Ytodlgdpkadkjjaa.PPyramidLevels

theorem May_calls (x y : Int) (A : Option Addr) (n cap : Nat) (w : World) (hn : n < 9223372036854775808) :
    Calls Try.prog 26 #[.agg #[.int .i64 x, .int .i64 y, .slice A n cap]] w fun e w' => e = .returned (.int .i64 ((checkE x y n : Nat) : Int)) ∧ Below w.heap.size w w' := by
 have hu25 := Try.underlying25
 by_cases hs : sizeB x y = true
 ·obtain ⟨h1, h2, h3, h4, h5⟩ := sizeB_true hs
  have hp := prod_bound h1 h2 h3 h4
  have hw2 : wrap64 (x * y) = x * y := w64 (by omega) (by omega)
  have hw3 : IntKind.i64.wrap (x * y) = x * y := wi64 (by omega) (by omega)
  have HS := Aside0.mk hs
  by_cases hc : (n : Int) = x * y
  ·have t1 : ((n : Int) != x * y) = false := by rw [bne_eq_false_iff_eq]; exact hc
   have he : Aside0 (checkE x y n = 0) := ⟨by unfold checkE; rw [if_pos hs, if_pos hc]⟩
   clear hs hc hp h1 h2 h3 h4 h5
   go_enter Try.func26, Try.ntmps26
   go_wp2_with (first | ((with_reducible refine gate_dst (N := 1) rfl ?_); refine box_event ?hg (N := 1) ?hd (cs := #[.int .i64 x, .int .i64 y, .slice A n cap]) (t := 25) ?hr ?_; (case hd => rfl); (case hg => rfl); (case hr => first | (go_simp; done) | (go_simp; rfl)); intro gP hg_ w1 hm_ hb_; have P1 := Aside0.mk (hm_); have B1 := Aside0.mk (hb_); have p0 := (blk_cell P1.out 0).trans rfl; have p1 := (blk_cell P1.out 1).trans rfl; have p2 := (blk_cell P1.out 2).trans rfl; clear hm_ hb_ hg_) | (go_at_call 23; refine (hSize_calls x y _).mono ?_; rw [HS.out]; rintro e _ ⟨rfl, rfl⟩))
   go_ret
   exact ⟨by rw [he.out]; rfl, B1.out⟩
  ·have t1 : ((n : Int) != x * y) = true := by rw [bne_iff_ne]; exact hc
   have he : Aside0 (checkE x y n = 51) := ⟨by unfold checkE; rw [if_pos hs, if_neg hc]⟩
   clear hs hc hp h1 h2 h3 h4 h5
   go_enter Try.func26, Try.ntmps26
   go_wp2_with (first | ((with_reducible refine gate_dst (N := 1) rfl ?_); refine box_event ?hg (N := 1) ?hd (cs := #[.int .i64 x, .int .i64 y, .slice A n cap]) (t := 25) ?hr ?_; (case hd => rfl); (case hg => rfl); (case hr => first | (go_simp; done) | (go_simp; rfl)); intro gP hg_ w1 hm_ hb_; have P1 := Aside0.mk (hm_); have B1 := Aside0.mk (hb_); have p0 := (blk_cell P1.out 0).trans rfl; have p1 := (blk_cell P1.out 1).trans rfl; have p2 := (blk_cell P1.out 2).trans rfl; clear hm_ hb_ hg_) | (go_at_call 23; refine (hSize_calls x y _).mono ?_; rw [HS.out]; rintro e _ ⟨rfl, rfl⟩))
   go_ret
   exact ⟨by rw [he.out]; rfl, B1.out⟩
 ·have hs' : sizeB x y = false := by simpa using hs
  have HS := Aside0.mk hs'
  have he : Aside0 (checkE x y n = 50) := ⟨by unfold checkE; rw [if_neg hs]⟩
  clear hs hs'
  go_enter Try.func26, Try.ntmps26
  go_wp2_with (first | ((with_reducible refine gate_dst (N := 1) rfl ?_); refine box_event ?hg (N := 1) ?hd (cs := #[.int .i64 x, .int .i64 y, .slice A n cap]) (t := 25) ?hr ?_; (case hd => rfl); (case hg => rfl); (case hr => first | (go_simp; done) | (go_simp; rfl)); intro gP hg_ w1 hm_ hb_; have P1 := Aside0.mk (hm_); have B1 := Aside0.mk (hb_); have p0 := (blk_cell P1.out 0).trans rfl; have p1 := (blk_cell P1.out 1).trans rfl; have p2 := (blk_cell P1.out 2).trans rfl; clear hm_ hb_ hg_) | (go_at_call 23; refine (hSize_calls x y _).mono ?_; rw [HS.out]; rintro e _ ⟨rfl, rfl⟩))
  go_ret
  exact ⟨by rw [he.out]; rfl, B1.out⟩
set_option maxHeartbeats 1000000 in
theorem fineOr0_calls (x y : Int) (A : Option Addr) (n c : Nat) (x2 y2 : Int) (A2 : Option Addr) (n2 c2 : Nat) (w : World) :
    Calls Try.prog 41 #[.agg #[.int .i64 x, .int .i64 y, .slice A n c], .agg #[.int .i64 x2, .int .i64 y2, .slice A2 n2 c2], .int .i64 0] w fun e w' => e = .returned (.agg #[.int .i64 x, .int .i64 y, .slice A n c]) ∧ Below w.heap.size w w' := by
 have hu25 := Try.underlying25
 go_enter Try.func41, Try.ntmps41
 go_wp2_with (first | ((with_reducible refine gate_dst (N := 3) rfl ?_); refine box_event ?hg (N := 3) ?hd (cs := #[.int .i64 x, .int .i64 y, .slice A n c]) (t := 25) ?hr ?_; (case hd => rfl); (case hg => rfl); (case hr => first | (go_simp; done) | (go_simp; rfl)); intro gP hg_ w1 hm_ hb_; have P1 := Aside0.mk (hm_); have B1 := Aside0.mk (hb_); clear hm_ hb_ hg_) | ((with_reducible refine gate_dst (N := 4) rfl ?_); refine box_event ?hg (N := 4) ?hd (cs := #[.int .i64 x2, .int .i64 y2, .slice A2 n2 c2]) (t := 25) ?hr ?_; (case hd => rfl); (case hg => rfl); (case hr => first | (go_simp; done) | (go_simp; rfl)); intro gQ hg_ w2 hm_ hb_; have P2 := Aside0.mk (blk_below P1.out hb_); have Q2 := Aside0.mk (hm_); have B2 := Aside0.mk (below_step B1.out hb_); clear hm_ hb_ hg_ P1 B1) | ((with_reducible refine gate_dst (N := 6) rfl ?_); refine box_event ?hg (N := 6) ?hd (cs := #[.int .i64 0, .int .i64 0, .slice none 0 0]) (t := 25) ?hr ?_; (case hd => rfl); (case hg => rfl); (case hr => first | (go_simp; done) | (go_simp; rfl)); intro gR hg_ w3 hm_ hb_; have P3 := Aside0.mk (blk_below P2.out hb_); have Q3 := Aside0.mk (blk_below Q2.out hb_); have R3 := Aside0.mk (hm_); have B3 := Aside0.mk (below_step B2.out hb_); have GR := Aside0.mk (show w.heap.size ≤ gR by rw [hg_]; exact below_size B2.out); have p0 := (blk_cell P3.out 0).trans rfl; have p1 := (blk_cell P3.out 1).trans rfl; have p2 := (blk_cell P3.out 2).trans rfl; have q0 := (blk_cell Q3.out 0).trans rfl; have q1 := (blk_cell Q3.out 1).trans rfl; have q2 := (blk_cell Q3.out 2).trans rfl; clear hm_ hb_ hg_) | ((with_reducible refine gate_store (p := 6) rfl ?_); refine storeP_event rfl rfl rfl gR x y A n c _ _ _ rfl rfl R3.out ?_; intro w4 hm_ hst_ hbl_; have R4 := Aside0.mk (hm_); have B4 := Aside0.mk (B3.out.trans (hbl_ _ GR.out)); clear hm_ hst_ hbl_))
 refine bodyPost_ret (results_cell_row rfl _ _ gR 25 #[.int .i64 x, .int .i64 y, .slice A n c] (0, 0) _ rfl R4.out Try.underlying25 rfl (by kernel_rfl)) rfl ?_
 exact ⟨rfl, B4.out⟩
set_option maxHeartbeats 1000000 in
theorem fineOr1_calls (x y : Int) (A : Option Addr) (n c : Nat) (x2 y2 : Int) (A2 : Option Addr) (n2 c2 : Nat) (l : Int) (hl : l ≠ 0) (w : World) :
    Calls Try.prog 41 #[.agg #[.int .i64 x, .int .i64 y, .slice A n c], .agg #[.int .i64 x2, .int .i64 y2, .slice A2 n2 c2], .int .i64 l] w fun e w' => e = .returned (.agg #[.int .i64 x2, .int .i64 y2, .slice A2 n2 c2]) ∧ Below w.heap.size w w' := by
 have hu25 := Try.underlying25
 have t1 : (l == 0) = false := by rw [beq_eq_false_iff_ne]; exact hl
 clear hl
 go_enter Try.func41, Try.ntmps41
 go_wp2_with (first | ((with_reducible refine gate_dst (N := 3) rfl ?_); refine box_event ?hg (N := 3) ?hd (cs := #[.int .i64 x, .int .i64 y, .slice A n c]) (t := 25) ?hr ?_; (case hd => rfl); (case hg => rfl); (case hr => first | (go_simp; done) | (go_simp; rfl)); intro gP hg_ w1 hm_ hb_; have P1 := Aside0.mk (hm_); have B1 := Aside0.mk (hb_); clear hm_ hb_ hg_) | ((with_reducible refine gate_dst (N := 4) rfl ?_); refine box_event ?hg (N := 4) ?hd (cs := #[.int .i64 x2, .int .i64 y2, .slice A2 n2 c2]) (t := 25) ?hr ?_; (case hd => rfl); (case hg => rfl); (case hr => first | (go_simp; done) | (go_simp; rfl)); intro gQ hg_ w2 hm_ hb_; have P2 := Aside0.mk (blk_below P1.out hb_); have Q2 := Aside0.mk (hm_); have B2 := Aside0.mk (below_step B1.out hb_); clear hm_ hb_ hg_ P1 B1) | ((with_reducible refine gate_dst (N := 6) rfl ?_); refine box_event ?hg (N := 6) ?hd (cs := #[.int .i64 0, .int .i64 0, .slice none 0 0]) (t := 25) ?hr ?_; (case hd => rfl); (case hg => rfl); (case hr => first | (go_simp; done) | (go_simp; rfl)); intro gR hg_ w3 hm_ hb_; have P3 := Aside0.mk (blk_below P2.out hb_); have Q3 := Aside0.mk (blk_below Q2.out hb_); have R3 := Aside0.mk (hm_); have B3 := Aside0.mk (below_step B2.out hb_); have GR := Aside0.mk (show w.heap.size ≤ gR by rw [hg_]; exact below_size B2.out); have p0 := (blk_cell P3.out 0).trans rfl; have p1 := (blk_cell P3.out 1).trans rfl; have p2 := (blk_cell P3.out 2).trans rfl; have q0 := (blk_cell Q3.out 0).trans rfl; have q1 := (blk_cell Q3.out 1).trans rfl; have q2 := (blk_cell Q3.out 2).trans rfl; clear hm_ hb_ hg_) | ((with_reducible refine gate_store (p := 6) rfl ?_); refine storeP_event rfl rfl rfl gR x2 y2 A2 n2 c2 _ _ _ rfl rfl R3.out ?_; intro w4 hm_ hst_ hbl_; have R4 := Aside0.mk (hm_); have B4 := Aside0.mk (B3.out.trans (hbl_ _ GR.out)); clear hm_ hst_ hbl_))
 refine bodyPost_ret (results_cell_row rfl _ _ gR 25 #[.int .i64 x2, .int .i64 y2, .slice A2 n2 c2] (0, 0) _ rfl R4.out Try.underlying25 rfl (by kernel_rfl)) rfl ?_
 exact ⟨rfl, B4.out⟩
/-- what Build tells, as planes -/
def bldP (W H : Nat) (xs : List Nat) (lv : Nat) : List Pl := (List.range (lv + 1)).map (fun i => ⟨(lvl W H xs i).w, (lvl W H xs i).h, if i < lv then lvlF W H xs i else (lvl W H xs i).s⟩)
theorem bldP_get {W H : Nat} {xs : List Nat} {lv i : Nat} (h : i ≤ lv) : (bldP W H xs lv).getD i plz = ⟨(lvl W H xs i).w, (lvl W H xs i).h, if i < lv then lvlF W H xs i else (lvl W H xs i).s⟩ := by
 rw [List.getD_eq_getElem?_getD, bldP, List.getElem?_map, List.getElem?_range (by omega)]; rfl
theorem bldP_length (W H : Nat) (xs : List Nat) (lv : Nat) : (bldP W H xs lv).length = lv + 1 := by simp [bldP]
theorem bldS_length (W H : Nat) (xs : List Nat) (lv : Nat) : (bldS W H xs lv).length = lv + 1 := by simp [bldS, finsB]
theorem bldS_get {W H : Nat} {xs : List Nat} {lv i : Nat} (h : i ≤ lv) : (bldS W H xs lv).getD i [] = if i < lv then lvlF W H xs i else (lvl W H xs i).s := by
 rw [List.getD_eq_getElem?_getD, bldS]
 by_cases hi : i < lv
 ·rw [List.getElem?_append_left (by simp [finsB, hi]), finsB, List.getElem?_map, List.getElem?_range hi, if_pos hi]; rfl
 ·obtain rfl : i = lv := by omega
  rw [List.getElem?_append_right (by simp [finsB]), if_neg (by omega)]
  simp [finsB]
theorem plsL_bld {W H : Nat} {xs : List Nat} {lv : Nat} {es : List (Nat × Nat × Hd)} (hd : dim2 es = dimsB W H xs (lv + 1)) : plsL es (bldS W H xs lv) = (bldP W H xs lv).map Pl.s25 := by
 have hl : es.length = lv + 1 := by have h1 := congrArg List.length hd; simpa [dim2, dimsB] using h1
 unfold plsL bldP
 rw [hl, List.map_map]
 refine List.map_congr_left (fun i hi => ?_)
 have hi' : i < lv + 1 := List.mem_range.mp hi
 have h2 : (dim2 es)[i]? = (dimsB W H xs (lv + 1))[i]? := by rw [hd]
 unfold dim2 dimsB at h2
 rw [List.getElem?_map, List.getElem?_map, List.getElem?_range hi', List.getElem?_eq_getElem (by omega), Option.map_some, Option.map_some, Option.some.injEq, Prod.mk.injEq] at h2
 rw [List.getElem?_eq_getElem (show i < es.length by omega), Option.getD_some, h2.1, h2.2, bldS_get (by omega)]
 rfl
theorem BuildL {W H n cap lv : Nat} {A : Option Addr} {xs : List Nat} {w : World} (hp : (Pl.mk W H xs).ok) (h : PL w A n cap xs) (hlv : lv ≤ 12) :
    Calls Try.prog 37 #[.agg #[.int .i64 (W : Int), .int .i64 (H : Int), .slice A n cap], .int .i64 (lv : Int)] w fun e w' => ∃ ap c, e = .returned (.tuple #[.slice (some ap) (lv + 1) c, .int .i64 0]) ∧ Kd.C k25 w' (some ap) (lv + 1) ((bldP W H xs lv).map Pl.s25) ∧ Below w.heap.size w w' := by
 refine (Build_ok W H xs A n cap lv w hp h hlv).mono ?_
 rintro e w' ⟨v, es, rfl, hO, hd, hb⟩
 obtain ⟨ap, c, rfl, hc, hC⟩ := hO.C25 (by rw [bldS_length]; omega) (by rw [bldS_length]; omega)
 rw [plsL_bld hd] at hC
 rw [bldS_length] at hC ⊢
 exact ⟨ap, c, rfl, hC, hb⟩
theorem rsts_bld {W H : Nat} {xs : List Nat} {lv : Nat} (hp : (Pl.mk W H xs).ok) : ∀ k, k ≤ lv → rsts (bldP W H xs lv) k = (0, lvl W H xs (lv - k))
 | 0, _ => by
  rw [rsts, bldP_length, Nat.add_sub_cancel, bldP_get (Nat.le_refl _), if_neg (by omega), Nat.sub_zero]
 | k + 1, h => by
  have ih := rsts_bld (lv := lv) hp k (by omega)
  obtain ⟨i, hi⟩ : ∃ i, lv - (k + 1) = i := ⟨_, rfl⟩
  have e1 : lv - k = i + 1 := by omega
  have e2 : lv + 1 - 2 - k = i := by omega
  rw [e1] at ih
  have hok : (Pl.mk (lvl W H xs i).w (lvl W H xs i).h (lvl W H xs i).s).ok := lvl_ok hp i
  have hj := joi_fin hok
  rw [rsts, bldP_length, e2, bldP_get (show i ≤ lv by omega), if_pos (show i < lv by omega), ih, hi, if_pos ⟨rfl, rfl⟩]
  show ((0, _) : Nat × Pl) = _
  have e3 : joiS (lvl W H xs (i + 1)).w (lvl W H xs (i + 1)).h (lvl W H xs i).w (lvl W H xs i).h (lvl W H xs (i + 1)).s (lvlF W H xs i) = (lvl W H xs i).s := hj
  rw [e3]
theorem bldP_ok {W H : Nat} {xs : List Nat} {lv i : Nat} (hp : (Pl.mk W H xs).ok) (h : i ≤ lv) : (Pl.mk ((bldP W H xs lv).getD i plz).w ((bldP W H xs lv).getD i plz).h ((bldP W H xs lv).getD i plz).s).ok := by
 rw [bldP_get h]
 by_cases hi : i < lv
 ·simp only [if_pos hi]; exact fin_ok (lvl_ok hp i)
 ·simp only [if_neg hi]; exact lvl_ok hp i
theorem RestoreL {W H cap lv : Nat} {ap : Addr} {xs : List Nat} {w : World} (hp : (Pl.mk W H xs).ok) (hlv : lv ≤ 12) (h : Kd.C k25 w (some ap) (lv + 1) ((bldP W H xs lv).map Pl.s25)) :
    Calls Try.prog 40 #[.slice (some ap) (lv + 1) cap] w fun e w' => ∃ A' n' c', e = .returned (.tuple #[.agg #[.int .i64 (W : Int), .int .i64 (H : Int), .slice A' n' c'], .int .i64 0]) ∧ PL w' A' n' c' xs ∧ Below w.heap.size w w' := by
 refine (Restore_main (bldP W H xs lv) (some ap) (lv + 1) cap w h ⟨by omega, by omega⟩ (fun i hi => bldP_ok hp (by omega))).mono ?_
 rintro e w' ⟨h1, _, hb⟩
 obtain ⟨v, rfl, hR⟩ := h1 (fun k hk => by rw [rsts_bld hp k (by omega)])
 rw [Nat.add_sub_cancel, rsts_bld hp lv (Nat.le_refl _), Nat.sub_self] at hR ⊢
 obtain ⟨A', n', c', rfl, hL⟩ := PL.of hR
 exact ⟨A', n', c', rfl, hL, hb⟩
theorem hf_big {a : Nat} (h : a ≤ 1024) : hf a < 1000000 := by unfold hf; omega
theorem lvl_half {W H : Nat} {xs : List Nat} (i : Nat) : (lvl W H xs (i + 1)).w = hf (lvl W H xs i).w ∧ (lvl W H xs (i + 1)).h = hf (lvl W H xs i).h := ⟨rfl, rfl⟩
theorem fineOrL {W H n c n2 c2 : Nat} {A A2 : Option Addr} {xs fs : List Nat} {lv : Nat} {w : World} (h : PL w A n c xs) (h2 : PL w A2 n2 c2 fs) :
    Calls Try.prog 41 #[.agg #[.int .i64 (W : Int), .int .i64 (H : Int), .slice A n c], .agg #[.int .i64 (W : Int), .int .i64 (H : Int), .slice A2 n2 c2], .int .i64 (lv : Int)] w fun e w' => ∃ A3 n3 c3, e = .returned (.agg #[.int .i64 (W : Int), .int .i64 (H : Int), .slice A3 n3 c3]) ∧ PL w' A3 n3 c3 (if 0 < lv then fs else xs) ∧ Below w.heap.size w w' := by
 by_cases hl : 0 < lv
 ·rw [if_pos hl]
  refine (fineOr1_calls _ _ A n c _ _ A2 n2 c2 (lv : Int) (by omega) w).mono ?_
  rintro e w' ⟨rfl, hb⟩
  exact ⟨A2, n2, c2, rfl, h2.below hb, hb⟩
 ·obtain rfl : lv = 0 := by omega
  rw [if_neg hl]
  refine (fineOr0_calls _ _ A n c _ _ A2 n2 c2 w).mono ?_
  rintro e w' ⟨rfl, hb⟩
  exact ⟨A, n, c, rfl, h.below hb, hb⟩
set_option maxHeartbeats 2000000 in
set_option maxRecDepth 100000 in
theorem back_bad (x y : Int) (A : Option Addr) (n cap : Nat) (xs : List Nat) (lv : Int) (w : World) (hx : PL w A n cap xs) (hE : checkE x y n ≠ 0) :
    Calls Try.prog 11 #[.agg #[.int .i64 x, .int .i64 y, .slice A n cap], .int .i64 lv] w fun e w' => e = .returned (.bool true) ∧ Below w.heap.size w w' := by
 have hu25 := Try.underlying25
 have HN := Aside0.mk hx.lt
 have Lx_0 := Aside0.mk hx
 obtain ⟨c, hc⟩ : ∃ c, checkE x y n = c := ⟨_, rfl⟩
 have HE := Aside0.mk hc
 rw [hc] at hE
 have t1 : ((c : Int) != 0) = true := by rw [bne_iff_ne]; omega
 clear hx hc hE
 have B_0 : Aside0 (Below w.heap.size w w) := ⟨Below.refl _ _⟩
 go_enter Try.func11, Try.ntmps11
 go_wp2_with (first | (go_at_call 26; have hkey := B_2; clear hkey; refine (May_calls x y A n cap _ HN.out).mono ?_; rw [HE.out]; rintro e w3 ⟨rfl, hb⟩; have B_3 := Aside0.mk (below_step B_2.out hb); have DX_3 := Aside0.mk (blk_below DX_2.out hb); have Lx_3 := Aside0.mk (Lx_2.out.below hb); clear DX_2 Lx_2; clear hb) | ((with_reducible refine gate_dst (N := 19) rfl ?_); refine loadP_g rfl ?hw gX _ _ _ rfl DX_2.out ?_; (case hw => rfl)) | (go_at_call 12; have hkey := B_1; clear hkey; refine (known_c _).mono ?_; rintro e w2 ⟨rfl, hb⟩; have B_2 := Aside0.mk (below_step B_1.out hb); have DX_2 := Aside0.mk (blk_below DX_1.out hb); have Lx_2 := Aside0.mk (Lx_1.out.below hb); clear DX_1 Lx_1; clear hb) | ((with_reducible refine gate_dst (N := 2) rfl ?_); refine box_event ?hg (N := 2) ?hd (cs := #[.int .i64 x, .int .i64 y, .slice A n cap]) (t := 25) ?hr ?_; (case hd => rfl); (case hg => rfl); (case hr => first | (go_simp; done) | (go_simp; rfl)); intro gX hg_ w1 hm_ hb_; have DX_1 := Aside0.mk (hm_); have B_1 := Aside0.mk (below_step B_0.out hb_); have Lx_1 := Aside0.mk (Lx_0.out.below hb_); clear Lx_0; clear hm_ hb_ hg_))
 go_ret
 exact ⟨rfl, B_3.out⟩
set_option maxHeartbeats 2000000 in
set_option maxRecDepth 100000 in
theorem back_levels (W H : Nat) (A : Option Addr) (n cap : Nat) (xs : List Nat) (lv : Int) (w : World) (hx : PL w A n cap xs) (hp : (Pl.mk W H xs).ok) (hl : lv < 0 ∨ 12 < lv) :
    Calls Try.prog 11 #[.agg #[.int .i64 (W : Int), .int .i64 (H : Int), .slice A n cap], .int .i64 lv] w fun e w' => e = .returned (.bool true) ∧ Below w.heap.size w w' := by
 have hu25 := Try.underlying25
 have HN := Aside0.mk hx.lt
 have Lx_0 := Aside0.mk hx
 have HE : Aside0 (checkE (W : Int) (H : Int) n = 0) := ⟨by rw [← hx.2.2]; exact hp.checkE⟩
 have main : ∀ b c : Bool, decide (lv < 0) = b → decide (12 < lv) = c → (b || c) = true → Calls Try.prog 11 #[.agg #[.int .i64 (W : Int), .int .i64 (H : Int), .slice A n cap], .int .i64 lv] w fun e w' => e = .returned (.bool true) ∧ Below w.heap.size w w' := by
  intro b c t1 t2 hbc
  clear hx hp hl
  have B_0 : Aside0 (Below w.heap.size w w) := ⟨Below.refl _ _⟩
  cases b <;> cases c <;> first | (exact absurd hbc (by decide)) | (
   clear hbc
   go_enter Try.func11, Try.ntmps11
   go_wp2_with (first | (go_at_call 26; have hkey := B_2; clear hkey; refine (May_calls (W : Int) (H : Int) A n cap _ HN.out).mono ?_; rw [HE.out]; rintro e w3 ⟨rfl, hb⟩; have B_3 := Aside0.mk (below_step B_2.out hb); have DX_3 := Aside0.mk (blk_below DX_2.out hb); have Lx_3 := Aside0.mk (Lx_2.out.below hb); clear DX_2 Lx_2; clear hb) | ((with_reducible refine gate_dst (N := 19) rfl ?_); refine loadP_g rfl ?hw gX _ _ _ rfl DX_2.out ?_; (case hw => rfl)) | (go_at_call 12; have hkey := B_1; clear hkey; refine (known_c _).mono ?_; rintro e w2 ⟨rfl, hb⟩; have B_2 := Aside0.mk (below_step B_1.out hb); have DX_2 := Aside0.mk (blk_below DX_1.out hb); have Lx_2 := Aside0.mk (Lx_1.out.below hb); clear DX_1 Lx_1; clear hb) | ((with_reducible refine gate_dst (N := 2) rfl ?_); refine box_event ?hg (N := 2) ?hd (cs := #[.int .i64 (W : Int), .int .i64 (H : Int), .slice A n cap]) (t := 25) ?hr ?_; (case hd => rfl); (case hg => rfl); (case hr => first | (go_simp; done) | (go_simp; rfl)); intro gX hg_ w1 hm_ hb_; have DX_1 := Aside0.mk (hm_); have B_1 := Aside0.mk (below_step B_0.out hb_); have Lx_1 := Aside0.mk (Lx_0.out.below hb_); clear Lx_0; clear hm_ hb_ hg_))
   go_ret
   exact ⟨rfl, B_3.out⟩)
 exact main _ _ rfl rfl (by rcases hl with hl | hl; · rw [decide_eq_true hl]; rfl
                            ·rw [decide_eq_true hl, Bool.or_true])
set_option maxHeartbeats 8000000 in
set_option maxRecDepth 100000 in
theorem back_main (W H : Nat) (A : Option Addr) (n cap : Nat) (xs : List Nat) (lv : Nat) (w : World) (hx : PL w A n cap xs) (hp : (Pl.mk W H xs).ok) (hlv : lv ≤ 12) :
    Calls Try.prog 11 #[.agg #[.int .i64 (W : Int), .int .i64 (H : Int), .slice A n cap], .int .i64 (lv : Int)] w fun e w' => e = .returned (.bool true) ∧ Below w.heap.size w w' := by
 have hu25 := Try.underlying25
 have HN := Aside0.mk hx.lt
 have Lx_0 := Aside0.mk hx
 have HE : Aside0 (checkE (W : Int) (H : Int) n = 0) := ⟨by rw [← hx.2.2]; exact hp.checkE⟩
 have HP := Aside0.mk hp
 have HRO := Aside0.mk (red_ok hp)
 have HFO := Aside0.mk (fin_ok hp)
 have R2 := Aside0.mk (joi_fin hp)
 have HLV := Aside0.mk hlv
 have HXL : Aside0 (xs.length < 4611686018427387904) := ⟨by have h1 : xs.length = W * H := hp.2.2.2.2.2.1; have h2 : W * H ≤ 65536 := hp.2.2.2.2.1; omega⟩
 have HFL : Aside0 ((finS W H xs).length < 4611686018427387904) := ⟨by rw [finS_length]; have h2 : W * H ≤ 65536 := hp.2.2.2.2.1; omega⟩
 have t1 : decide ((lv : Int) < 0) = false := decide_eq_false (by omega)
 have t2 : decide ((12 : Int) < (lv : Int)) = false := decide_eq_false (by omega)
 have t3 : decide (12 < lv) = false := decide_eq_false (by omega)
 have hw0 : wrap64 0 = 0 := w64 (by decide) (by decide)
 have hw1 : wrap64 ((lv : Int) + 1) = (lv : Int) + 1 := w64 (by omega) (by omega)
 clear hx hp
 have B_0 : Aside0 (Below w.heap.size w w) := ⟨Below.refl _ _⟩
 go_enter Try.func11, Try.ntmps11
 go_upto_region 11 with (first | ((with_reducible refine gate_store (p := 12) rfl ?_); refine storeP_event rfl rfl rfl g12 (W : Int) (H : Int) A5 n5 c5 _ _ _ rfl rfl ZQ.out ?_; intro w10 hm_ hst_ hbl_; have BL9_2 := Aside0.mk (BL9_1.out.trans (hbl_ _ GGQ.out)); have ZQ_ := Aside0.mk hm_; have B_10 := Aside0.mk (below_step B_9.out BL9_2.out); have DX_10 := Aside0.mk (blk_below DX_9.out BL9_2.out); have DC_10 := Aside0.mk (blk_below DC_9.out BL9_2.out); have DF_10 := Aside0.mk (blk_below DF_9.out BL9_2.out); have DJ_10 := Aside0.mk (blk_below DJ_9.out BL9_2.out); have Lx_10 := Aside0.mk (Lx_9.out.below BL9_2.out); have La_10 := Aside0.mk (La_9.out.below BL9_2.out); have Lb_10 := Aside0.mk (Lb_9.out.below BL9_2.out); have Lj_10 := Aside0.mk (Lj_9.out.below BL9_2.out); have Lq_10 := Aside0.mk (Lq_9.out.below BL9_2.out); have CK_10 := Aside0.mk (Kd.C_below CK_9.out BL9_2.out); clear DX_9 DC_9 DF_9 DJ_9 Lx_9 La_9 Lb_9 Lj_9 Lq_9 CK_9; have DQ_10 := Aside0.mk (ZQ_.out); clear ZQ_ ZQ BL9_1 BL9_2; clear hm_ hst_ hbl_) | ((with_reducible refine gate_dst (N := 12) rfl ?_); refine box_event ?hg (N := 12) ?hd (cs := #[.int .i64 0, .int .i64 0, .slice none 0 0]) (t := 25) ?hr ?_; (case hd => rfl); (case hg => rfl); (case hr => first | (go_simp; done) | (go_simp; rfl)); intro g12 hg_ w9_1 hm_ hb_; have BL9_1 := Aside0.mk (hb_); have ZQ := Aside0.mk (hm_); have GGQ := Aside0.mk (show w9.heap.size ≤ g12 by rw [hg_]; exact Nat.le_refl _); clear hm_ hb_ hg_) | (go_at_call 40; have hkey := B_8; clear hkey; refine (RestoreL HP.out HLV.out CK_8.out).mono ?_; rintro e w9 ⟨A5, n5, c5, rfl, hL, hb⟩; have B_9 := Aside0.mk (below_step B_8.out hb); have DX_9 := Aside0.mk (blk_below DX_8.out hb); have DC_9 := Aside0.mk (blk_below DC_8.out hb); have DF_9 := Aside0.mk (blk_below DF_8.out hb); have DJ_9 := Aside0.mk (blk_below DJ_8.out hb); have Lx_9 := Aside0.mk (Lx_8.out.below hb); have La_9 := Aside0.mk (La_8.out.below hb); have Lb_9 := Aside0.mk (Lb_8.out.below hb); have Lj_9 := Aside0.mk (Lj_8.out.below hb); have CK_9 := Aside0.mk (Kd.C_below CK_8.out hb); clear DX_8 DC_8 DF_8 DJ_8 Lx_8 La_8 Lb_8 Lj_8 CK_8; have Lq_9 := Aside0.mk (hL); clear hb hL) | (go_at_call 37; have hkey := B_7; clear hkey; refine (BuildL HP.out Lx_7.out HLV.out).mono ?_; rintro e w8 ⟨ap, cp, rfl, hC, hb⟩; have B_8 := Aside0.mk (below_step B_7.out hb); have DX_8 := Aside0.mk (blk_below DX_7.out hb); have DC_8 := Aside0.mk (blk_below DC_7.out hb); have DF_8 := Aside0.mk (blk_below DF_7.out hb); have DJ_8 := Aside0.mk (blk_below DJ_7.out hb); have Lx_8 := Aside0.mk (Lx_7.out.below hb); have La_8 := Aside0.mk (La_7.out.below hb); have Lb_8 := Aside0.mk (Lb_7.out.below hb); have Lj_8 := Aside0.mk (Lj_7.out.below hb); clear DX_7 DC_7 DF_7 DJ_7 Lx_7 La_7 Lb_7 Lj_7; have CK_8 := Aside0.mk (hC); clear hb hC) | ((with_reducible refine gate_dst (N := 43) rfl ?_); refine loadP_g rfl ?hw gX _ _ _ rfl DX_7.out ?_; (case hw => rfl)) | ((with_reducible refine gate_store (p := 8) rfl ?_); refine storeP_event rfl rfl rfl g8 (W : Int) (H : Int) A4 n4 c4 _ _ _ rfl rfl ZJ.out ?_; intro w7 hm_ hst_ hbl_; have BL6_2 := Aside0.mk (BL6_1.out.trans (hbl_ _ GGJ.out)); have ZJ_ := Aside0.mk hm_; have B_7 := Aside0.mk (below_step B_6.out BL6_2.out); have DX_7 := Aside0.mk (blk_below DX_6.out BL6_2.out); have DC_7 := Aside0.mk (blk_below DC_6.out BL6_2.out); have DF_7 := Aside0.mk (blk_below DF_6.out BL6_2.out); have Lx_7 := Aside0.mk (Lx_6.out.below BL6_2.out); have La_7 := Aside0.mk (La_6.out.below BL6_2.out); have Lb_7 := Aside0.mk (Lb_6.out.below BL6_2.out); have Lj_7 := Aside0.mk (Lj_6.out.below BL6_2.out); clear DX_6 DC_6 DF_6 Lx_6 La_6 Lb_6 Lj_6; have DJ_7 := Aside0.mk (ZJ_.out); clear ZJ_ ZJ BL6_1 BL6_2; clear hm_ hst_ hbl_) | ((with_reducible refine gate_dst (N := 8) rfl ?_); refine box_event ?hg (N := 8) ?hd (cs := #[.int .i64 0, .int .i64 0, .slice none 0 0]) (t := 25) ?hr ?_; (case hd => rfl); (case hg => rfl); (case hr => first | (go_simp; done) | (go_simp; rfl)); intro g8 hg_ w6_1 hm_ hb_; have BL6_1 := Aside0.mk (hb_); have ZJ := Aside0.mk (hm_); have GGJ := Aside0.mk (show w6.heap.size ≤ g8 by rw [hg_]; exact Nat.le_refl _); clear hm_ hb_ hg_) | (go_at_call 33; have hkey := B_5; clear hkey; refine (JoinL HRO.out HFO.out La_5.out Lb_5.out rfl rfl).mono ?_; rintro e w6 ⟨A4, n4, c4, rfl, hL, hb⟩; rw [R2.out] at hL; have B_6 := Aside0.mk (below_step B_5.out hb); have DX_6 := Aside0.mk (blk_below DX_5.out hb); have DC_6 := Aside0.mk (blk_below DC_5.out hb); have DF_6 := Aside0.mk (blk_below DF_5.out hb); have Lx_6 := Aside0.mk (Lx_5.out.below hb); have La_6 := Aside0.mk (La_5.out.below hb); have Lb_6 := Aside0.mk (Lb_5.out.below hb); clear DX_5 DC_5 DF_5 Lx_5 La_5 Lb_5; have Lj_6 := Aside0.mk (hL); clear hb hL) | ((with_reducible refine gate_dst (N := 38) rfl ?_); refine loadP_g rfl ?hw g6 _ _ _ rfl DF_5.out ?_; (case hw => rfl)) | ((with_reducible refine gate_dst (N := 37) rfl ?_); refine loadP_g rfl ?hw g5 _ _ _ rfl DC_5.out ?_; (case hw => rfl)) | ((with_reducible refine gate_store (p := 6) rfl ?_); refine storeP_event rfl rfl rfl g6 (W : Int) (H : Int) A3 n3 c3 _ _ _ rfl rfl ZF.out ?_; intro w5 hm_ hst_ hbl_; have BL4_4 := Aside0.mk (BL4_3.out.trans (hbl_ _ GGF.out)); have ZF_ := Aside0.mk hm_; have ZC_ := Aside0.mk ((hst_ g5 NECF.out).trans ZC_.out); have B_5 := Aside0.mk (below_step B_4.out BL4_4.out); have DX_5 := Aside0.mk (blk_below DX_4.out BL4_4.out); have Lx_5 := Aside0.mk (Lx_4.out.below BL4_4.out); have La_5 := Aside0.mk (La_4.out.below BL4_4.out); have Lb_5 := Aside0.mk (Lb_4.out.below BL4_4.out); clear DX_4 Lx_4 La_4 Lb_4; have DC_5 := Aside0.mk (ZC_.out); have DF_5 := Aside0.mk (ZF_.out); clear ZC_ ZC ZF_ ZF BL4_1 BL4_2 BL4_3 BL4_4; clear hm_ hst_ hbl_) | ((with_reducible refine gate_store (p := 5) rfl ?_); refine storeP_event rfl rfl rfl g5 ((hf W : Nat) : Int) ((hf H : Nat) : Int) A2 n2 c2 _ _ _ rfl rfl ZC.out ?_; intro w4_3 hm_ hst_ hbl_; have BL4_3 := Aside0.mk (BL4_2.out.trans (hbl_ _ GGC.out)); have ZC_ := Aside0.mk hm_; have ZF := Aside0.mk ((hst_ g6 NECF.out.symm).trans ZF.out); clear hm_ hst_ hbl_) | ((with_reducible refine gate_dst (N := 6) rfl ?_); refine box_event ?hg (N := 6) ?hd (cs := #[.int .i64 0, .int .i64 0, .slice none 0 0]) (t := 25) ?hr ?_; (case hd => rfl); (case hg => rfl); (case hr => first | (go_simp; done) | (go_simp; rfl)); intro g6 hg_ w4_2 hm_ hb_; have BL4_2 := Aside0.mk (BL4_1.out.trans (hb_.mono BL4_1.out.size)); have ZF := Aside0.mk (hm_); have GGF := Aside0.mk (show w4.heap.size ≤ g6 by rw [hg_]; exact BL4_1.out.size); have NECF := Aside0.mk (show g5 ≠ g6 by rw [hg_]; have := blk_lt ZC.out; omega); have ZC := Aside0.mk (blk_below ZC.out hb_); clear hm_ hb_ hg_) | ((with_reducible refine gate_dst (N := 5) rfl ?_); refine box_event ?hg (N := 5) ?hd (cs := #[.int .i64 0, .int .i64 0, .slice none 0 0]) (t := 25) ?hr ?_; (case hd => rfl); (case hg => rfl); (case hr => first | (go_simp; done) | (go_simp; rfl)); intro g5 hg_ w4_1 hm_ hb_; have BL4_1 := Aside0.mk (hb_); have ZC := Aside0.mk (hm_); have GGC := Aside0.mk (show w4.heap.size ≤ g5 by rw [hg_]; exact Nat.le_refl _); clear hm_ hb_ hg_) | (go_at_call 25; have hkey := B_3; clear hkey; refine (SplitL HP.out Lx_3.out).mono ?_; rintro e w4 ⟨A2, n2, c2, A3, n3, c3, rfl, hL, hL2, hb⟩; have B_4 := Aside0.mk (below_step B_3.out hb); have DX_4 := Aside0.mk (blk_below DX_3.out hb); have Lx_4 := Aside0.mk (Lx_3.out.below hb); clear DX_3 Lx_3; have La_4 := Aside0.mk (hL); have Lb_4 := Aside0.mk (hL2); clear hb hL hL2) | ((with_reducible refine gate_dst (N := 31) rfl ?_); refine loadP_g rfl ?hw gX _ _ _ rfl DX_3.out ?_; (case hw => rfl)) | (go_at_call 26; have hkey := B_2; clear hkey; refine (May_calls (W : Int) (H : Int) A n cap _ HN.out).mono ?_; rw [HE.out]; rintro e w3 ⟨rfl, hb⟩; have B_3 := Aside0.mk (below_step B_2.out hb); have DX_3 := Aside0.mk (blk_below DX_2.out hb); have Lx_3 := Aside0.mk (Lx_2.out.below hb); clear DX_2 Lx_2; clear hb) | ((with_reducible refine gate_dst (N := 19) rfl ?_); refine loadP_g rfl ?hw gX _ _ _ rfl DX_2.out ?_; (case hw => rfl)) | (go_at_call 12; have hkey := B_1; clear hkey; refine (known_c _).mono ?_; rintro e w2 ⟨rfl, hb⟩; have B_2 := Aside0.mk (below_step B_1.out hb); have DX_2 := Aside0.mk (blk_below DX_1.out hb); have Lx_2 := Aside0.mk (Lx_1.out.below hb); clear DX_1 Lx_1; clear hb) | ((with_reducible refine gate_dst (N := 2) rfl ?_); refine box_event ?hg (N := 2) ?hd (cs := #[.int .i64 (W : Int), .int .i64 (H : Int), .slice A n cap]) (t := 25) ?hr ?_; (case hd => rfl); (case hg => rfl); (case hr => first | (go_simp; done) | (go_simp; rfl)); intro gX hg_ w1 hm_ hb_; have DX_1 := Aside0.mk (hm_); have B_1 := Aside0.mk (below_step B_0.out hb_); have Lx_1 := Aside0.mk (Lx_0.out.below hb_); clear Lx_0; clear hm_ hb_ hg_) | (go_at_call 17; refine (num_calls _ _).mono ?_; rintro e _ ⟨rfl, rfl⟩))
 have DX_d := Aside0.mk (blk_drew DX_10.out)
 have DC_d := Aside0.mk (blk_drew DC_10.out)
 have DF_d := Aside0.mk (blk_drew DF_10.out)
 have DJ_d := Aside0.mk (blk_drew DJ_10.out)
 have DQ_d := Aside0.mk (blk_drew DQ_10.out)
 have Lx_d := Aside0.mk (Lx_10.out.below (below_drew1 (Below.refl _ _)))
 have La_d := Aside0.mk (La_10.out.below (below_drew1 (Below.refl _ _)))
 have Lb_d := Aside0.mk (Lb_10.out.below (below_drew1 (Below.refl _ _)))
 have Lj_d := Aside0.mk (Lj_10.out.below (below_drew1 (Below.refl _ _)))
 have Lq_d := Aside0.mk (Lq_10.out.below (below_drew1 (Below.refl _ _)))
 have CK_d := Aside0.mk (Kd.C_below CK_10.out (below_drew1 (Below.refl _ _)))
 have B_d : Aside0 (Below w.heap.size w w10.drew) := ⟨below_drew1 B_10.out⟩
 clear DX_10 DC_10 DF_10 DJ_10 DQ_10 Lx_10 La_10 Lb_10 Lj_10 Lq_10 CK_10 B_10
 have DX_30 := DX_d
 have DC_30 := DC_d
 have DF_30 := DF_d
 have DJ_30 := DJ_d
 have DQ_30 := DQ_d
 have Lx_30 := Lx_d
 have La_30 := La_d
 have Lb_30 := Lb_d
 have Lj_30 := Lj_d
 have Lq_30 := Lq_d
 have CK_30 := CK_d
 have B_30 := B_d
 clear DX_d DC_d DF_d DJ_d DQ_d Lx_d La_d Lb_d Lj_d Lq_d CK_d B_d
 refine start_ (n := 6) (S := fun w' => w'.cell? ⟨gX, 0, none⟩ = some (.int .i64 (W : Int)) ∧ w'.cell? ⟨gX, 1, none⟩ = some (.int .i64 (H : Int)) ∧ w'.cell? ⟨gX, 2, none⟩ = some (.slice A n cap)) (ds := []) #[false, false, false, false, false, false] (by kernel_rfl) rfl rfl ⟨(blk_cell DX_30.out 0).trans rfl, (blk_cell DX_30.out 1).trans rfl, (blk_cell DX_30.out 2).trans rfl⟩ (fun hHeld => ?_)
 generalize w10.drew = w30 at *
 refine pure_ (i := 0) (N := some 72) (v := ?_) (a' := ?_) #[true, false, false, false, false, false] rfl rfl (by kernel_rfl) (fun _ _ _ h => h) (Or.inl ⟨by rfl, ?_⟩) ?_ ?_
 rotate_left
 ·intro w'
  go_simp
  with_reducible rfl
 rotate_left
 ·simp only [Act.put, List.setIfInBounds_toArray, List.set_cons_zero, List.set_cons_succ, i64_w, i32_w]
  rfl
 refine pure_ (i := 2) (N := some 74) (v := ?_) (a' := ?_) #[true, false, true, false, false, false] rfl rfl (by kernel_rfl) (fun _ _ _ h => h) (Or.inl ⟨by rfl, ?_⟩) ?_ ?_
 rotate_left
 ·intro w'
  go_simp
  with_reducible rfl
 rotate_left
 ·simp only [Act.put, List.setIfInBounds_toArray, List.set_cons_zero, List.set_cons_succ, i64_w, i32_w]
  rfl
 refine take_ (i := 1) (N := some 73) (v := ?_) (a' := ?_) #[true, true, true, false, false, false] rfl rfl (by kernel_rfl) (fun _ _ _ h => h) (Or.inl ⟨by rfl, ?_⟩) hHeld ?_ ?_
 rotate_left
 ·rintro w' ⟨s0, s1, s2⟩
  go_simp
  with_reducible rfl
 rotate_left
 ·simp only [Act.put, List.setIfInBounds_toArray, List.set_cons_zero, List.set_cons_succ, i64_w, i32_w]
  rfl
 refine pure_ (i := 4) (N := some 14) (v := ?_) (a' := ?_) #[true, true, true, false, true, false] rfl rfl (by kernel_rfl) (fun _ _ _ h => h) (Or.inl ⟨by rfl, ?_⟩) ?_ ?_
 rotate_left
 ·intro w'
  go_simp
  with_reducible rfl
 rotate_left
 ·simp only [Act.put, List.setIfInBounds_toArray, List.set_cons_zero, List.set_cons_succ, i64_w, i32_w]
  rfl
 refine take_ (i := 3) (N := some 75) (v := ?_) (a' := ?_) #[true, true, true, true, true, false] rfl rfl (by kernel_rfl) (fun _ _ _ h => h) (Or.inl ⟨by rfl, ?_⟩) hHeld ?_ ?_
 rotate_left
 ·rintro w' ⟨s0, s1, s2⟩
  go_simp
  with_reducible rfl
 rotate_left
 ·simp only [Act.put, List.setIfInBounds_toArray, List.set_cons_zero, List.set_cons_succ, i64_w, i32_w]
  rfl
 refine pure_ (i := 5) (N := some 15) (v := ?_) (a' := ?_) #[true, true, true, true, true, true] rfl rfl (by kernel_rfl) (fun _ _ _ h => h) (Or.inl ⟨by rfl, ?_⟩) ?_ ?_
 rotate_left
 ·intro w'
  go_simp
  with_reducible rfl
 rotate_left
 ·simp only [Act.put, List.setIfInBounds_toArray, List.set_cons_zero, List.set_cons_succ, i64_w, i32_w]
  rfl
 refine done_ (by kernel_rfl) ?_
 go_wp2
 go_loopw [14, 15, 16] (fun xv yv kv wr => ∃ (k : Nat), k ≤ lv + 1 ∧ xv = .int .i64 ((lvl W H xs k).w : Int) ∧ yv = .int .i64 ((lvl W H xs k).h : Int) ∧ kv = .int .i64 (k : Int) ∧ wr = w30) (fun _ _ kv _ => lv + 1 - (intOf kv).toNat)
 case atStart => exact ⟨0, by omega, rfl, rfl, rfl, rfl⟩
 case round =>
  obtain ⟨k, hk, rfl, rfl, rfl, rfl⟩ := hrel
  by_cases hlt : k < lv + 1
  ·have hle : k ≤ lv := by omega
   have c1 : decide ((k : Int) < (lv : Int) + 1) = true := decide_eq_true (by omega)
   have c2 : decide (k < lv + 1) = true := decide_eq_true hlt
   have i1 : ((k : Int) < (lv : Int) + 1) = True := eq_true (by omega)
   obtain ⟨ad, aq, A6, n6, c6, hA, haq, y0_, y1_, y2, hQL⟩ := cells_s25 CK_30.out k hlt
   injection hA with hA
   subst hA
   rw [bldP_get hle] at y0_ y1_
   obtain ⟨a, ha⟩ : ∃ a, (lvl W H xs k).w = a := ⟨_, rfl⟩
   obtain ⟨b, hb⟩ : ∃ b, (lvl W H xs k).h = b := ⟨_, rfl⟩
   have hlk := lvl_ok HP.out k
   have g1 : a ≤ 1024 := by rw [← ha]; exact hlk.2.2.1
   have g2 : b ≤ 1024 := by rw [← hb]; exact hlk.2.2.2.1
   have HA1 : Aside0 ((lvl W H xs (k + 1)).w = hf a) := ⟨by rw [(lvl_half k).1, ha]⟩
   have HB1 : Aside0 ((lvl W H xs (k + 1)).h = hf b) := ⟨by rw [(lvl_half k).2, hb]⟩
   have y0 : wr.cell? aq = some (.int .i64 (a : Int)) := by rw [← ha]; exact y0_
   have y1 : wr.cell? ⟨aq.block, aq.off + 1, none⟩ = some (.int .i64 (b : Int)) := by rw [← hb]; exact y1_
   rw [ha, hb]
   have f1 : wrap64 ((a : Int) + 1) = (a : Int) + 1 := w64n1 g1
   have f2 : ((a : Int) + 1).tdiv 2 = ((hf a : Nat) : Int) := rfl
   have f3 : hf a < 1000000 := hf_big g1
   have f4 : wrap64 ((b : Int) + 1) = (b : Int) + 1 := w64n1 g2
   have f5 : ((b : Int) + 1).tdiv 2 = ((hf b : Nat) : Int) := rfl
   have f6 : hf b < 1000000 := hf_big g2
   clear hQL hlk ha hb y2 hHeld y0_ y1_
   have n1 : ((a : Int) != (a : Int)) = false := bne_self_eq_false _
   have n2 : ((b : Int) != (b : Int)) = false := bne_self_eq_false _
   go_wp2
   go_roundw
   case measure =>
    clear f1 f4 hw1 hw0
    simp [intOf]; omega
   case rel => exact ⟨k + 1, by omega, by rw [HA1.out], by rw [HB1.out], by go_num, trivial⟩
  ·obtain rfl : k = lv + 1 := by omega
   clear hHeld hk hlt
   have c1 : decide ((lv : Int) + 1 < (lv : Int) + 1) = false := decide_eq_false (by omega)
   obtain ⟨ad, aq, A6, n6, c6, hA, haq, y0, y1, y2, hQL⟩ := cells_s25 CK_30.out 0 (Nat.succ_pos lv)
   injection hA with hA
   subst hA
   obtain rfl : ap = aq := haq
   rw [bldP_get (Nat.zero_le lv)] at y0 y1 hQL
   have y0 : wr.cell? ap = some (.int .i64 (W : Int)) := y0
   have y1 : wr.cell? ⟨ap.block, ap.off + 1, none⟩ = some (.int .i64 (H : Int)) := y1
   obtain ⟨os, hos⟩ : ∃ os, (if 0 < lv then finS W H xs else xs) = os := ⟨_, rfl⟩
   have HOS := Aside0.mk hos
   have hQL : PL wr A6 n6 c6 os := by rw [← hos]; exact hQL
   have HOL : Aside0 (os.length < 4611686018427387904) := ⟨by rw [← hos]; split; exact HFL.out; exact HXL.out⟩
   have haq0 : ap.add 0 = ap := if_pos rfl
   have Y0_30 := Aside0.mk y0
   have Y1_30 := Aside0.mk y1
   have Y2_30 := Aside0.mk y2
   have Lw_30 := Aside0.mk hQL
   clear hos hQL y0 y1 y2 CK_30
   go_upto_region 18 with (fail)
   have DX_d := Aside0.mk (blk_drew DX_30.out)
   have DC_d := Aside0.mk (blk_drew DC_30.out)
   have DF_d := Aside0.mk (blk_drew DF_30.out)
   have DJ_d := Aside0.mk (blk_drew DJ_30.out)
   have DQ_d := Aside0.mk (blk_drew DQ_30.out)
   have Lx_d := Aside0.mk (Lx_30.out.below (below_drew1 (Below.refl _ _)))
   have La_d := Aside0.mk (La_30.out.below (below_drew1 (Below.refl _ _)))
   have Lb_d := Aside0.mk (Lb_30.out.below (below_drew1 (Below.refl _ _)))
   have Lj_d := Aside0.mk (Lj_30.out.below (below_drew1 (Below.refl _ _)))
   have Lq_d := Aside0.mk (Lq_30.out.below (below_drew1 (Below.refl _ _)))
   have Lw_d := Aside0.mk (Lw_30.out.below (below_drew1 (Below.refl _ _)))
   have Y0_d := Aside0.mk ((fun h_ hb_ => pw_cell_below hb_ h_) Y0_30.out (below_drew1 (Below.refl _ _)))
   have Y1_d := Aside0.mk ((fun h_ hb_ => pw_cell_below hb_ h_) Y1_30.out (below_drew1 (Below.refl _ _)))
   have Y2_d := Aside0.mk ((fun h_ hb_ => pw_cell_below hb_ h_) Y2_30.out (below_drew1 (Below.refl _ _)))
   have B_d : Aside0 (Below w.heap.size w wr.drew) := ⟨below_drew1 B_30.out⟩
   clear DX_30 DC_30 DF_30 DJ_30 DQ_30 Lx_30 La_30 Lb_30 Lj_30 Lq_30 Lw_30 Y0_30 Y1_30 Y2_30 B_30
   have DX_100 := DX_d
   have DC_100 := DC_d
   have DF_100 := DF_d
   have DJ_100 := DJ_d
   have DQ_100 := DQ_d
   have Lx_100 := Lx_d
   have La_100 := La_d
   have Lb_100 := Lb_d
   have Lj_100 := Lj_d
   have Lq_100 := Lq_d
   have Lw_100 := Lw_d
   have Y0_100 := Y0_d
   have Y1_100 := Y1_d
   have Y2_100 := Y2_d
   have B_100 := B_d
   clear DX_d DC_d DF_d DJ_d DQ_d Lx_d La_d Lb_d Lj_d Lq_d Lw_d Y0_d Y1_d Y2_d B_d
   refine start_ (n := 19) (S := fun w' => w'.cell? ⟨gX, 0, none⟩ = some (.int .i64 (W : Int)) ∧ w'.cell? ⟨gX, 1, none⟩ = some (.int .i64 (H : Int)) ∧ w'.cell? ⟨gX, 2, none⟩ = some (.slice A n cap) ∧ w'.cell? ⟨g6, 0, none⟩ = some (.int .i64 (W : Int)) ∧ w'.cell? ⟨g6, 1, none⟩ = some (.int .i64 (H : Int)) ∧ w'.cell? ⟨g6, 2, none⟩ = some (.slice A3 n3 c3) ∧ w'.cell? ⟨g8, 0, none⟩ = some (.int .i64 (W : Int)) ∧ w'.cell? ⟨g8, 1, none⟩ = some (.int .i64 (H : Int)) ∧ w'.cell? ⟨g8, 2, none⟩ = some (.slice A4 n4 c4) ∧ w'.cell? ⟨g12, 0, none⟩ = some (.int .i64 (W : Int)) ∧ w'.cell? ⟨g12, 1, none⟩ = some (.int .i64 (H : Int)) ∧ w'.cell? ⟨g12, 2, none⟩ = some (.slice A5 n5 c5) ∧ w'.cell? ap = some (.int .i64 (W : Int)) ∧ w'.cell? ⟨ap.block, ap.off + 1, none⟩ = some (.int .i64 (H : Int)) ∧ w'.cell? ⟨ap.block, ap.off + 2, none⟩ = some (.slice A6 n6 c6)) (ds := []) #[ff_,ff_,ff_,ff_,ff_,ff_,ff_,ff_,ff_,ff_,ff_,ff_,ff_,ff_,ff_,ff_,ff_,ff_,ff_] (by kernel_rfl) rfl rfl ⟨(blk_cell DX_100.out 0).trans rfl, (blk_cell DX_100.out 1).trans rfl, (blk_cell DX_100.out 2).trans rfl, (blk_cell DF_100.out 0).trans rfl, (blk_cell DF_100.out 1).trans rfl, (blk_cell DF_100.out 2).trans rfl, (blk_cell DJ_100.out 0).trans rfl, (blk_cell DJ_100.out 1).trans rfl, (blk_cell DJ_100.out 2).trans rfl, (blk_cell DQ_100.out 0).trans rfl, (blk_cell DQ_100.out 1).trans rfl, (blk_cell DQ_100.out 2).trans rfl, Y0_100.out, Y1_100.out, Y2_100.out⟩ (fun hHeld => ?_)
   generalize wr.drew = w100 at *
   refine take_ (i := 0) (N := some 104) (v := ?_) (a' := ?_) #[tt_,ff_,ff_,ff_,ff_,ff_,ff_,ff_,ff_,ff_,ff_,ff_,ff_,ff_,ff_,ff_,ff_,ff_,ff_] rfl rfl (by kernel_rfl) (fun _ _ _ h => h) (Or.inl ⟨by rfl, ?_⟩) hHeld ?_ ?_
   rotate_left
   ·rintro w' ⟨s0, s1, s2, s3, s4, s5, s6, s7, s8, s9, s10, s11, s12, s13, s14⟩
    go_simp
    with_reducible rfl
   rotate_left
   ·simp only [Act.put, List.setIfInBounds_toArray, List.set_cons_zero, List.set_cons_succ, i64_w, i32_w]
    rfl
   refine take_ (i := 1) (N := some 105) (v := ?_) (a' := ?_) #[tt_,tt_,ff_,ff_,ff_,ff_,ff_,ff_,ff_,ff_,ff_,ff_,ff_,ff_,ff_,ff_,ff_,ff_,ff_] rfl rfl (by kernel_rfl) (fun _ _ _ h => h) (Or.inl ⟨by rfl, ?_⟩) hHeld ?_ ?_
   rotate_left
   ·rintro w' ⟨s0, s1, s2, s3, s4, s5, s6, s7, s8, s9, s10, s11, s12, s13, s14⟩
    go_simp
    with_reducible rfl
   rotate_left
   ·simp only [Act.put, List.setIfInBounds_toArray, List.set_cons_zero, List.set_cons_succ, i64_w, i32_w]
    rfl
   refine one_ (i := 2) (N := some 106) #[tt_,tt_,tt_,ff_,ff_,ff_,ff_,ff_,ff_,ff_,ff_,ff_,ff_,ff_,ff_,ff_,ff_,ff_,ff_] rfl rfl (by kernel_rfl) (by decide) (fun K hK => ?_)
   refine goes_ Try.func18 (by kernel_rfl) rfl #[.agg #[.int .i64 (W : Int), .int .i64 (H : Int), .slice A4 n4 c4], .agg #[.int .i64 (W : Int), .int .i64 (H : Int), .slice A n cap]] (by rfl) rfl rfl (by (try simp only [List.map_toArray, List.map_cons, List.map_nil]); rfl) ?_
   refine (same_s Lj_100.out Lx_100.out HXL.out).mono ?_
   rintro e w101 ⟨rfl, hb⟩
   refine ⟨_, rfl, ?_⟩
   have B_101 := Aside0.mk (below_step B_100.out hb)
   have DX_101 := Aside0.mk (blk_below DX_100.out hb)
   have DC_101 := Aside0.mk (blk_below DC_100.out hb)
   have DF_101 := Aside0.mk (blk_below DF_100.out hb)
   have DJ_101 := Aside0.mk (blk_below DJ_100.out hb)
   have DQ_101 := Aside0.mk (blk_below DQ_100.out hb)
   have Lx_101 := Aside0.mk (Lx_100.out.below hb)
   have La_101 := Aside0.mk (La_100.out.below hb)
   have Lb_101 := Aside0.mk (Lb_100.out.below hb)
   have Lj_101 := Aside0.mk (Lj_100.out.below hb)
   have Lq_101 := Aside0.mk (Lq_100.out.below hb)
   have Lw_101 := Aside0.mk (Lw_100.out.below hb)
   have Y0_101 := Aside0.mk ((fun h_ hb_ => pw_cell_below hb_ h_) Y0_100.out hb)
   have Y1_101 := Aside0.mk ((fun h_ hb_ => pw_cell_below hb_ h_) Y1_100.out hb)
   have Y2_101 := Aside0.mk ((fun h_ hb_ => pw_cell_below hb_ h_) Y2_100.out hb)
   clear DX_100 DC_100 DF_100 DJ_100 DQ_100 Lx_100 La_100 Lb_100 Lj_100 Lq_100 Lw_100 Y0_100 Y1_100 Y2_100
   clear hb
   refine hK.out _ _ ⟨(blk_cell DX_101.out 0).trans rfl, (blk_cell DX_101.out 1).trans rfl, (blk_cell DX_101.out 2).trans rfl, (blk_cell DF_101.out 0).trans rfl, (blk_cell DF_101.out 1).trans rfl, (blk_cell DF_101.out 2).trans rfl, (blk_cell DJ_101.out 0).trans rfl, (blk_cell DJ_101.out 1).trans rfl, (blk_cell DJ_101.out 2).trans rfl, (blk_cell DQ_101.out 0).trans rfl, (blk_cell DQ_101.out 1).trans rfl, (blk_cell DQ_101.out 2).trans rfl, Y0_101.out, Y1_101.out, Y2_101.out⟩ (fun hHeld => ?_)
   clear hK K
   refine norm_ (a' := ?_) ?_ ?_
   rotate_left
   ·show Act.put _ (some 106) _ = _
    simp only [Act.put, List.setIfInBounds_toArray, List.set_cons_zero, List.set_cons_succ, i64_w, i32_w]
    rfl
   refine pure_ (i := 3) (N := some 107) (v := ?_) (a' := ?_) #[tt_,tt_,tt_,tt_,ff_,ff_,ff_,ff_,ff_,ff_,ff_,ff_,ff_,ff_,ff_,ff_,ff_,ff_,ff_] rfl rfl (by kernel_rfl) (fun _ _ _ h => h) (Or.inl ⟨by rfl, ?_⟩) ?_ ?_
   rotate_left
   ·intro w'
    go_simp
    with_reducible rfl
   rotate_left
   ·simp only [Act.put, List.setIfInBounds_toArray, List.set_cons_zero, List.set_cons_succ, i64_w, i32_w]
    rfl
   refine take_ (i := 4) (N := some 108) (v := ?_) (a' := ?_) #[tt_,tt_,tt_,tt_,tt_,ff_,ff_,ff_,ff_,ff_,ff_,ff_,ff_,ff_,ff_,ff_,ff_,ff_,ff_] rfl rfl (by kernel_rfl) (fun _ _ _ h => h) (Or.inl ⟨by rfl, ?_⟩) hHeld ?_ ?_
   rotate_left
   ·rintro w' ⟨s0, s1, s2, s3, s4, s5, s6, s7, s8, s9, s10, s11, s12, s13, s14⟩
    go_simp
    with_reducible rfl
   rotate_left
   ·simp only [Act.put, List.setIfInBounds_toArray, List.set_cons_zero, List.set_cons_succ, i64_w, i32_w]
    rfl
   refine take_ (i := 5) (N := some 109) (v := ?_) (a' := ?_) #[tt_,tt_,tt_,tt_,tt_,tt_,ff_,ff_,ff_,ff_,ff_,ff_,ff_,ff_,ff_,ff_,ff_,ff_,ff_] rfl rfl (by kernel_rfl) (fun _ _ _ h => h) (Or.inl ⟨by rfl, ?_⟩) hHeld ?_ ?_
   rotate_left
   ·rintro w' ⟨s0, s1, s2, s3, s4, s5, s6, s7, s8, s9, s10, s11, s12, s13, s14⟩
    go_simp
    with_reducible rfl
   rotate_left
   ·simp only [Act.put, List.setIfInBounds_toArray, List.set_cons_zero, List.set_cons_succ, i64_w, i32_w]
    rfl
   refine one_ (i := 6) (N := some 110) #[tt_,tt_,tt_,tt_,tt_,tt_,tt_,ff_,ff_,ff_,ff_,ff_,ff_,ff_,ff_,ff_,ff_,ff_,ff_] rfl rfl (by kernel_rfl) (by decide) (fun K hK => ?_)
   refine goes_ Try.func18 (by kernel_rfl) rfl #[.agg #[.int .i64 (W : Int), .int .i64 (H : Int), .slice A5 n5 c5], .agg #[.int .i64 (W : Int), .int .i64 (H : Int), .slice A n cap]] (by rfl) rfl rfl (by (try simp only [List.map_toArray, List.map_cons, List.map_nil]); rfl) ?_
   refine (same_s Lq_101.out Lx_101.out HXL.out).mono ?_
   rintro e w102 ⟨rfl, hb⟩
   refine ⟨_, rfl, ?_⟩
   have B_102 := Aside0.mk (below_step B_101.out hb)
   have DX_102 := Aside0.mk (blk_below DX_101.out hb)
   have DC_102 := Aside0.mk (blk_below DC_101.out hb)
   have DF_102 := Aside0.mk (blk_below DF_101.out hb)
   have DJ_102 := Aside0.mk (blk_below DJ_101.out hb)
   have DQ_102 := Aside0.mk (blk_below DQ_101.out hb)
   have Lx_102 := Aside0.mk (Lx_101.out.below hb)
   have La_102 := Aside0.mk (La_101.out.below hb)
   have Lb_102 := Aside0.mk (Lb_101.out.below hb)
   have Lj_102 := Aside0.mk (Lj_101.out.below hb)
   have Lq_102 := Aside0.mk (Lq_101.out.below hb)
   have Lw_102 := Aside0.mk (Lw_101.out.below hb)
   have Y0_102 := Aside0.mk ((fun h_ hb_ => pw_cell_below hb_ h_) Y0_101.out hb)
   have Y1_102 := Aside0.mk ((fun h_ hb_ => pw_cell_below hb_ h_) Y1_101.out hb)
   have Y2_102 := Aside0.mk ((fun h_ hb_ => pw_cell_below hb_ h_) Y2_101.out hb)
   clear DX_101 DC_101 DF_101 DJ_101 DQ_101 Lx_101 La_101 Lb_101 Lj_101 Lq_101 Lw_101 Y0_101 Y1_101 Y2_101
   clear hb
   refine hK.out _ _ ⟨(blk_cell DX_102.out 0).trans rfl, (blk_cell DX_102.out 1).trans rfl, (blk_cell DX_102.out 2).trans rfl, (blk_cell DF_102.out 0).trans rfl, (blk_cell DF_102.out 1).trans rfl, (blk_cell DF_102.out 2).trans rfl, (blk_cell DJ_102.out 0).trans rfl, (blk_cell DJ_102.out 1).trans rfl, (blk_cell DJ_102.out 2).trans rfl, (blk_cell DQ_102.out 0).trans rfl, (blk_cell DQ_102.out 1).trans rfl, (blk_cell DQ_102.out 2).trans rfl, Y0_102.out, Y1_102.out, Y2_102.out⟩ (fun hHeld => ?_)
   clear hK K
   refine norm_ (a' := ?_) ?_ ?_
   rotate_left
   ·show Act.put _ (some 110) _ = _
    simp only [Act.put, List.setIfInBounds_toArray, List.set_cons_zero, List.set_cons_succ, i64_w, i32_w]
    rfl
   refine pure_ (i := 7) (N := some 111) (v := ?_) (a' := ?_) #[tt_,tt_,tt_,tt_,tt_,tt_,tt_,tt_,ff_,ff_,ff_,ff_,ff_,ff_,ff_,ff_,ff_,ff_,ff_] rfl rfl (by kernel_rfl) (fun _ _ _ h => h) (Or.inl ⟨by rfl, ?_⟩) ?_ ?_
   rotate_left
   ·intro w'
    go_simp
    with_reducible rfl
   rotate_left
   ·simp only [Act.put, List.setIfInBounds_toArray, List.set_cons_zero, List.set_cons_succ, i64_w, i32_w]
    rfl
   refine pure_ (i := 8) (N := some 112) (v := ?_) (a' := ?_) #[tt_,tt_,tt_,tt_,tt_,tt_,tt_,tt_,tt_,ff_,ff_,ff_,ff_,ff_,ff_,ff_,ff_,ff_,ff_] rfl rfl (by kernel_rfl) (fun _ _ _ h => h) (Or.inl ⟨by rfl, ?_⟩) ?_ ?_
   rotate_left
   ·intro w'
    go_simp
    with_reducible rfl
   rotate_left
   ·simp only [Act.put, List.setIfInBounds_toArray, List.set_cons_zero, List.set_cons_succ, i64_w, i32_w]
    rfl
   refine pure_ (i := 9) (N := some 113) (v := ?_) (a' := ?_) #[tt_,tt_,tt_,tt_,tt_,tt_,tt_,tt_,tt_,tt_,ff_,ff_,ff_,ff_,ff_,ff_,ff_,ff_,ff_] rfl rfl (by kernel_rfl) (fun _ _ _ h => h) (Or.inl ⟨by rfl, ?_⟩) ?_ ?_
   rotate_left
   ·intro w'
    go_simp
    with_reducible rfl
   rotate_left
   ·simp only [Act.put, List.setIfInBounds_toArray, List.set_cons_zero, List.set_cons_succ, i64_w, i32_w]
    rfl
   refine pure_ (i := 10) (N := some 114) (v := ?_) (a' := ?_) #[tt_,tt_,tt_,tt_,tt_,tt_,tt_,tt_,tt_,tt_,tt_,ff_,ff_,ff_,ff_,ff_,ff_,ff_,ff_] rfl rfl (by kernel_rfl) (fun _ _ _ h => h) (Or.inl ⟨by rfl, ?_⟩) ?_ ?_
   rotate_left
   ·intro w'
    go_simp
    with_reducible rfl
   rotate_left
   ·simp only [Act.put, List.setIfInBounds_toArray, List.set_cons_zero, List.set_cons_succ, i64_w, i32_w]
    rfl
   refine pure_ (i := 14) (N := some 118) (v := ?_) (a' := ?_) #[tt_,tt_,tt_,tt_,tt_,tt_,tt_,tt_,tt_,tt_,tt_,ff_,ff_,ff_,tt_,ff_,ff_,ff_,ff_] rfl rfl (by kernel_rfl) (fun _ _ _ h => h) (Or.inl ⟨by rfl, ?_⟩) ?_ ?_
   rotate_left
   ·intro w'
    go_simp
    with_reducible rfl
   rotate_left
   ·simp only [Act.put, List.setIfInBounds_toArray, List.set_cons_zero, List.set_cons_succ, i64_w, i32_w]
    rfl
   refine take_ (i := 11) (N := some 115) (v := ?_) (a' := ?_) #[tt_,tt_,tt_,tt_,tt_,tt_,tt_,tt_,tt_,tt_,tt_,tt_,ff_,ff_,tt_,ff_,ff_,ff_,ff_] rfl rfl (by kernel_rfl) (fun _ _ _ h => h) (Or.inl ⟨by rfl, ?_⟩) hHeld ?_ ?_
   rotate_left
   ·rintro w' ⟨s0, s1, s2, s3, s4, s5, s6, s7, s8, s9, s10, s11, s12, s13, s14⟩
    go_simp
    with_reducible rfl
   rotate_left
   ·simp only [Act.put, List.setIfInBounds_toArray, List.set_cons_zero, List.set_cons_succ, i64_w, i32_w]
    rfl
   refine take_ (i := 12) (N := some 116) (v := ?_) (a' := ?_) #[tt_,tt_,tt_,tt_,tt_,tt_,tt_,tt_,tt_,tt_,tt_,tt_,tt_,ff_,tt_,ff_,ff_,ff_,ff_] rfl rfl (by kernel_rfl) (fun _ _ _ h => h) (Or.inl ⟨by rfl, ?_⟩) hHeld ?_ ?_
   rotate_left
   ·rintro w' ⟨s0, s1, s2, s3, s4, s5, s6, s7, s8, s9, s10, s11, s12, s13, s14⟩
    go_simp
    with_reducible rfl
   rotate_left
   ·simp only [Act.put, List.setIfInBounds_toArray, List.set_cons_zero, List.set_cons_succ, i64_w, i32_w]
    rfl
   refine take_ (i := 13) (N := some 117) (v := ?_) (a' := ?_) #[tt_,tt_,tt_,tt_,tt_,tt_,tt_,tt_,tt_,tt_,tt_,tt_,tt_,tt_,tt_,ff_,ff_,ff_,ff_] rfl rfl (by kernel_rfl) (fun _ _ _ h => h) (Or.inl ⟨by rfl, ?_⟩) hHeld ?_ ?_
   rotate_left
   ·rintro w' ⟨s0, s1, s2, s3, s4, s5, s6, s7, s8, s9, s10, s11, s12, s13, s14⟩
    go_simp
    with_reducible rfl
   rotate_left
   ·simp only [Act.put, List.setIfInBounds_toArray, List.set_cons_zero, List.set_cons_succ, i64_w, i32_w]
    rfl
   refine one_ (i := 15) (N := some 119) #[tt_,tt_,tt_,tt_,tt_,tt_,tt_,tt_,tt_,tt_,tt_,tt_,tt_,tt_,tt_,tt_,ff_,ff_,ff_] rfl rfl (by kernel_rfl) (by decide) (fun K hK => ?_)
   refine goes_ Try.func41 (by kernel_rfl) rfl #[.agg #[.int .i64 (W : Int), .int .i64 (H : Int), .slice A n cap], .agg #[.int .i64 (W : Int), .int .i64 (H : Int), .slice A3 n3 c3], .int .i64 (lv : Int)] (by rfl) rfl rfl (by (try simp only [List.map_toArray, List.map_cons, List.map_nil]); rfl) ?_
   refine (fineOrL Lx_102.out Lb_102.out).mono ?_
   rintro e w103 ⟨A7, n7, c7, rfl, hL, hb⟩
   refine ⟨_, rfl, ?_⟩
   rw [HOS.out] at hL
   have B_103 := Aside0.mk (below_step B_102.out hb)
   have DX_103 := Aside0.mk (blk_below DX_102.out hb)
   have DC_103 := Aside0.mk (blk_below DC_102.out hb)
   have DF_103 := Aside0.mk (blk_below DF_102.out hb)
   have DJ_103 := Aside0.mk (blk_below DJ_102.out hb)
   have DQ_103 := Aside0.mk (blk_below DQ_102.out hb)
   have Lx_103 := Aside0.mk (Lx_102.out.below hb)
   have La_103 := Aside0.mk (La_102.out.below hb)
   have Lb_103 := Aside0.mk (Lb_102.out.below hb)
   have Lj_103 := Aside0.mk (Lj_102.out.below hb)
   have Lq_103 := Aside0.mk (Lq_102.out.below hb)
   have Lw_103 := Aside0.mk (Lw_102.out.below hb)
   have Y0_103 := Aside0.mk ((fun h_ hb_ => pw_cell_below hb_ h_) Y0_102.out hb)
   have Y1_103 := Aside0.mk ((fun h_ hb_ => pw_cell_below hb_ h_) Y1_102.out hb)
   have Y2_103 := Aside0.mk ((fun h_ hb_ => pw_cell_below hb_ h_) Y2_102.out hb)
   clear DX_102 DC_102 DF_102 DJ_102 DQ_102 Lx_102 La_102 Lb_102 Lj_102 Lq_102 Lw_102 Y0_102 Y1_102 Y2_102
   have Lo_103 := Aside0.mk (hL)
   clear hb hL
   refine hK.out _ _ ⟨(blk_cell DX_103.out 0).trans rfl, (blk_cell DX_103.out 1).trans rfl, (blk_cell DX_103.out 2).trans rfl, (blk_cell DF_103.out 0).trans rfl, (blk_cell DF_103.out 1).trans rfl, (blk_cell DF_103.out 2).trans rfl, (blk_cell DJ_103.out 0).trans rfl, (blk_cell DJ_103.out 1).trans rfl, (blk_cell DJ_103.out 2).trans rfl, (blk_cell DQ_103.out 0).trans rfl, (blk_cell DQ_103.out 1).trans rfl, (blk_cell DQ_103.out 2).trans rfl, Y0_103.out, Y1_103.out, Y2_103.out⟩ (fun hHeld => ?_)
   clear hK K
   refine norm_ (a' := ?_) ?_ ?_
   rotate_left
   ·show Act.put _ (some 119) _ = _
    simp only [Act.put, List.setIfInBounds_toArray, List.set_cons_zero, List.set_cons_succ, i64_w, i32_w]
    rfl
   refine one_ (i := 16) (N := some 120) #[tt_,tt_,tt_,tt_,tt_,tt_,tt_,tt_,tt_,tt_,tt_,tt_,tt_,tt_,tt_,tt_,tt_,ff_,ff_] rfl rfl (by kernel_rfl) (by decide) (fun K hK => ?_)
   refine goes_ Try.func18 (by kernel_rfl) rfl #[.agg #[.int .i64 (W : Int), .int .i64 (H : Int), .slice A6 n6 c6], .agg #[.int .i64 (W : Int), .int .i64 (H : Int), .slice A7 n7 c7]] (by rfl) rfl rfl (by (try simp only [List.map_toArray, List.map_cons, List.map_nil]); rfl) ?_
   refine (same_s Lw_103.out Lo_103.out HOL.out).mono ?_
   rintro e w104 ⟨rfl, hb⟩
   refine ⟨_, rfl, ?_⟩
   have B_104 := Aside0.mk (below_step B_103.out hb)
   have DX_104 := Aside0.mk (blk_below DX_103.out hb)
   have DC_104 := Aside0.mk (blk_below DC_103.out hb)
   have DF_104 := Aside0.mk (blk_below DF_103.out hb)
   have DJ_104 := Aside0.mk (blk_below DJ_103.out hb)
   have DQ_104 := Aside0.mk (blk_below DQ_103.out hb)
   have Lx_104 := Aside0.mk (Lx_103.out.below hb)
   have La_104 := Aside0.mk (La_103.out.below hb)
   have Lb_104 := Aside0.mk (Lb_103.out.below hb)
   have Lj_104 := Aside0.mk (Lj_103.out.below hb)
   have Lq_104 := Aside0.mk (Lq_103.out.below hb)
   have Lw_104 := Aside0.mk (Lw_103.out.below hb)
   have Lo_104 := Aside0.mk (Lo_103.out.below hb)
   have Y0_104 := Aside0.mk ((fun h_ hb_ => pw_cell_below hb_ h_) Y0_103.out hb)
   have Y1_104 := Aside0.mk ((fun h_ hb_ => pw_cell_below hb_ h_) Y1_103.out hb)
   have Y2_104 := Aside0.mk ((fun h_ hb_ => pw_cell_below hb_ h_) Y2_103.out hb)
   clear DX_103 DC_103 DF_103 DJ_103 DQ_103 Lx_103 La_103 Lb_103 Lj_103 Lq_103 Lw_103 Lo_103 Y0_103 Y1_103 Y2_103
   clear hb
   refine hK.out _ _ ⟨(blk_cell DX_104.out 0).trans rfl, (blk_cell DX_104.out 1).trans rfl, (blk_cell DX_104.out 2).trans rfl, (blk_cell DF_104.out 0).trans rfl, (blk_cell DF_104.out 1).trans rfl, (blk_cell DF_104.out 2).trans rfl, (blk_cell DJ_104.out 0).trans rfl, (blk_cell DJ_104.out 1).trans rfl, (blk_cell DJ_104.out 2).trans rfl, (blk_cell DQ_104.out 0).trans rfl, (blk_cell DQ_104.out 1).trans rfl, (blk_cell DQ_104.out 2).trans rfl, Y0_104.out, Y1_104.out, Y2_104.out⟩ (fun hHeld => ?_)
   clear hK K
   refine norm_ (a' := ?_) ?_ ?_
   rotate_left
   ·show Act.put _ (some 120) _ = _
    simp only [Act.put, List.setIfInBounds_toArray, List.set_cons_zero, List.set_cons_succ, i64_w, i32_w]
    rfl
   refine pure_ (i := 17) (N := some 121) (v := ?_) (a' := ?_) #[tt_,tt_,tt_,tt_,tt_,tt_,tt_,tt_,tt_,tt_,tt_,tt_,tt_,tt_,tt_,tt_,tt_,tt_,ff_] rfl rfl (by kernel_rfl) (fun _ _ _ h => h) (Or.inl ⟨by rfl, ?_⟩) ?_ ?_
   rotate_left
   ·intro w'
    go_simp
    with_reducible rfl
   rotate_left
   ·simp only [Act.put, List.setIfInBounds_toArray, List.set_cons_zero, List.set_cons_succ, i64_w, i32_w]
    rfl
   refine pure_ (i := 18) (N := some 4) (v := ?_) (a' := ?_) #[tt_,tt_,tt_,tt_,tt_,tt_,tt_,tt_,tt_,tt_,tt_,tt_,tt_,tt_,tt_,tt_,tt_,tt_,tt_] rfl rfl (by kernel_rfl) (fun _ _ _ h => h) (Or.inl ⟨by rfl, ?_⟩) ?_ ?_
   rotate_left
   ·intro w'
    go_simp
    with_reducible rfl
   rotate_left
   ·simp only [Act.put, List.setIfInBounds_toArray, List.set_cons_zero, List.set_cons_succ, i64_w, i32_w]
    rfl
   refine done_ (by kernel_rfl) ?_
   go_wp2
   go_ret
   exact ⟨rfl, B_104.out⟩
theorem pyramidBack (x y : Int) (A : Option Addr) (cap : Nat) (xs : List Nat) (lv : Int) (w : World) (hC : (nat .u32).C w A xs.length xs) (hc : xs.length ≤ cap) (hx : ∀ i, gt xs i < 4294967296) (_hl : -9223372036854775808 ≤ lv ∧ lv < 9223372036854775808) :
    Calls Try.prog 11 #[.agg #[.int .i64 x, .int .i64 y, .slice A xs.length cap], .int .i64 lv] w fun e w' => e = .returned (.bool true) ∧ Below w.heap.size w w' := by
 have h1 := PL.start hC hc
 by_cases hE : checkE x y xs.length = 0
 ·obtain ⟨W, H, rfl, rfl, e1⟩ := checkE_zero hE
  by_cases hl : lv < 0 ∨ 12 < lv
  ·exact back_levels W H A _ cap xs lv w h1 (ok_mk hE hx) hl
  ·obtain ⟨k, rfl⟩ : ∃ k : Nat, lv = (k : Int) := ⟨lv.toNat, by omega⟩
   exact back_main W H A _ cap xs k w h1 (ok_mk hE hx) (by omega)
 ·exact back_bad x y A _ cap xs lv w h1 hE
end Go.Proofs.Ytodlgdpkadkjjaa.A
end
