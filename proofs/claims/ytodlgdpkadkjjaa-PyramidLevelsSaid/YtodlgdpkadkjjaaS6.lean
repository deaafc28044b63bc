import Derived.Test.YtodlgdpkadkjjaaS5
import Derived.ChangeSlices
import Derived.Deep.Slices
import Derived.Lib.SmallJoins
import Derived.SizedLaws
import Derived.Test.YtodlgdpkadkjjaaRows
section
set_option linter.unusedVariables false
set_option linter.unusedSimpArgs false
namespace Go.Proofs.Ytodlgdpkadkjjaa.A
open Go.RowKit Go.Shelf Go.Proofs.YtodlgdpkadkjjaaW.PrintWords Go.Proofs.YtodlgdpkadkjjaaW.PrintLast Go.Proofs.YtodlgdpkadkjjaaW.PrintMore Go.Proofs.Ytodlgdpkadkjjaa.PPyramidLevels
theorem OutB_as {f : FuncId} {args : Array Value} {w : World} {o : BO} {l : List S25} {e m : Nat} (h : Calls Try.prog f args w (OutB w o)) (eo : o = ⟨l, e⟩) (em : l.length = m) :
    Calls Try.prog f args w fun x w' => ∃ A c es ss, x = .returned (.tuple #[.slice A m c, .int .i64 (e : Int)]) ∧ PlsOwn w.heap.size w' (.slice A m c) es ss ∧ es.length ≤ 13 ∧ Kd.C k25 w' A m l ∧ m ≤ c ∧ Below w.heap.size w w' := by
 subst eo em
 exact h
theorem OutBr_as {f : FuncId} {args : Array Value} {w : World} {o : BO} {l : List S25} {e m : Nat} (h : Calls Try.prog f args w (OutBr w o)) (eo : o = ⟨l, e⟩) (em : l.length = m) :
    Calls Try.prog f args w fun x w' => ∃ A c, x = .returned (.tuple #[.slice A m c, .int .i64 (e : Int)]) ∧ k25.R 25 w' w.heap.size (fun _ => True) (.slice A m c) l ∧ Below w.heap.size w w' := by
 subst eo em
 exact h
theorem k25_but {g : Nat} {W0 w : World} {B : Nat} {v : Value} {l : List S25} {cs : Array Value} (h : k25.R 25 W0 B (fun _ => True) v l) (hg : W0.heap[g]? = some (.cells cs 34 (0, 0))) (T : But W0.heap.size g W0 w) : k25.R 25 w B (fun _ => True) v l :=
 Kd.R_mono (Kd.R_move (Kd.R_bound h) (fun k hk => by
  obtain ⟨_, _, hlt, q, hq, cells, hc⟩ := hk
  have hq2 : q = 25 ∨ q = 50 := by simpa [k25, Kd.iso, Kd.pair, Kd.slice, Kd.int, Kd.scalar] using hq
  refine T.block k hlt (fun e => ?_)
  subst e
  rw [hg] at hc
  injection hc with hc
  injection hc with _ e
  rcases hq2 with rfl | rfl <;> exact absurd e (by decide))) (fun _ hk => hk.1)
theorem LentL.but {g ro B : Nat} {W0 w : World} {l : List S25} {cs c2 : Array Value} (h : LentL W0 ro B l c2) (hg : W0.heap[g]? = some (.cells cs 34 (0, 0))) (T : But W0.heap.size g W0 w) : LentL w ro B l c2 :=
 h.move fun r cl t hr ht _ => T.block r (blk_lt hr) (fun e => by
  subst e
  rw [hg] at hr
  injection hr with hr
  injection hr with _ e
  rcases ht with rfl | rfl <;> exact absurd e (by decide))
theorem C_butPL {w w1 : World} {A : Option Addr} {n c B g : Nat} {xs : List Nat} (h : PL w A n c xs) (hm : ∀ k, k < B ∧ k ≠ g → w1.heap[k]? = w.heap[k]?) (ha : ∀ ad, A = some ad → 0 < n → ad.block < B ∧ ad.block ≠ g) : PL w1 A n c xs := ⟨C_but h.1 (fun ad hA hp => hm _ (ha ad hA hp)), h.2⟩
set_option maxHeartbeats 16000000 in
set_option maxRecDepth 100000 in
theorem pyramidLevels (x y : Int) (A : Option Addr) (cap : Nat) (p : List Nat) (lv : Int) (A2 : Option Addr) (cap2 : Nat) (l : List S25) (w : World) (hC : (nat .u32).C w A p.length p) (hc : p.length ≤ cap) (hx : ∀ i, gt p i < 4294967296) (_hl : -9223372036854775808 ≤ lv ∧ lv < 9223372036854775808) (hL : Kd.C k25 w A2 l.length l) (hc2 : l.length ≤ cap2) (hs : ∀ i, i < l.length → ∃ q : List Nat, (rd_T25 l (i : Int)).f2 = ints q ∧ (∀ j, gt q j < 4294967296) ∧ q.length * 4 ≤ 140737488351232) (hb4 : p.length * 4 ≤ 140737488351232) (hb40 : l.length * 40 ≤ 140737488351232) :
    Calls Try.prog 10 #[.agg #[.int .i64 x, .int .i64 y, .slice A p.length cap], .int .i64 lv, .slice A2 l.length cap2] w fun e w' => e = .returned (.bool true) ∧ Below w.heap.size w w' := by
 have hu25 := Try.underlying25
 obtain ⟨o, hol, ho40, ho36⟩ := Restore_both l (fun i hi => by obtain ⟨q, h1, h2, _⟩ := hs i hi; exact ⟨q, h1, h2⟩)
 obtain ⟨n, hn⟩ : ∃ n, p.length = n := ⟨_, rfl⟩
 obtain ⟨n2, hn2⟩ : ∃ n2, l.length = n2 := ⟨_, rfl⟩
 have HLFEW : Aside0 (∀ z ∈ l, z.f2.length < 4611686018427387904) := ⟨fun z hz => by
  obtain ⟨i, hi, rfl⟩ := List.getElem_of_mem hz
  obtain ⟨q, h1, _, h3⟩ := hs i hi
  have e : rd_T25 l (i : Int) = l[i] := by unfold rd_T25; rw [Int.toNat_natCast, List.getD_eq_getElem?_getD, List.getElem?_eq_getElem hi]; rfl
  rw [e] at h1
  rw [h1, ints_length]
  omega⟩
 have HLN : Aside0 (l.length = n2) := ⟨hn2⟩
 have HNF : Aside0 (n2 < 4611686018427387904) := ⟨by omega⟩
 rw [hn2] at hL hc2 hs hb40 ho40 ho36 ⊢
 have HX : Aside0 (PL w A n cap p) := ⟨by rw [← hn]; exact ⟨hC, hc, rfl⟩⟩
 have HPX := Aside0.mk hx
 have HARG := Aside0.mk hL
 have HAC := Aside0.mk hc2
 have HPB : Aside0 (∀ i, i < n2 → ∃ q : List Nat, (rd_T25 l (i : Int)).f2 = ints q ∧ q.length * 4 ≤ 140737488351232) := ⟨fun i hi => by obtain ⟨q, h1, _, h3⟩ := hs i hi; exact ⟨q, h1, h3⟩⟩
 have HO40 := Aside0.mk ho40
 have HO36 := Aside0.mk ho36
 obtain ⟨bx, by_, bl, be⟩ := o
 have HOB : Aside0 ((⟨bx, by_, bl, be⟩ : PO) = ⟨bx, by_, bl, be⟩) := ⟨rfl⟩
 have HBL : Aside0 (bl.length < 4611686018427387904) := ⟨hol⟩
 have hfew := bldO_few x y p lv hx
 obtain ⟨⟨la, ae⟩, hoa⟩ : ∃ o, bldO x y p lv = o := ⟨_, rfl⟩
 rw [hoa] at hfew
 have HOA := Aside0.mk hoa
 obtain ⟨ml, hml⟩ : ∃ ml, la.length = ml := ⟨_, rfl⟩
 have HML := Aside0.mk hml
 have HMF : Aside0 (ml < 4611686018427387904 ∧ ∀ z ∈ la, z.f2.length < 4611686018427387904) := ⟨by rw [← hml]; exact hfew⟩
 have ta : ((ae : Int) != (ae : Int)) = false := by rw [bne_eq_false_iff_eq]
 have tb : ((be : Int) != (be : Int)) = false := by rw [bne_eq_false_iff_eq]
 have Lx_0 := HX
 rw [hn] at hb4 ⊢
 clear hn hn2 hC hc hx hoa _hl hL hc2 hs ho40 ho36 hol hfew hml
 have B_0 : Aside0 (Below w.heap.size w w) := ⟨Below.refl _ _⟩
 go_enter Try.func10, Try.ntmps10
 go_wp2_with (first | ((with_reducible refine gate_store (p := 13) rfl ?_); refine storeP_event rfl rfl rfl g13 bx by_ A13 n13 c13 _ _ _ rfl rfl ZBb.out ?_; intro w10 hm_ hst_ hbl_; have BL9_2 := Aside0.mk (BL9_1.out.trans (hbl_ _ GGBb.out)); have ZBb_ := Aside0.mk hm_; have B_10 := Aside0.mk (below_step B_9.out BL9_2.out); have DX_10 := Aside0.mk (blk_below DX_9.out BL9_2.out); have DE_10 := Aside0.mk (blk_below DE_9.out BL9_2.out); have Lx_10 := Aside0.mk (Lx_9.out.below BL9_2.out); have Ll_10 := Aside0.mk (Ll_9.out.below BL9_2.out); have Lb_10 := Aside0.mk (Lb_9.out.below BL9_2.out); have DK_10 := Aside0.mk (blk_below DK_9.out BL9_2.out); have RM_10 := Aside0.mk (RmS.below RM_9.out BL9_2.out); have LY_10 := Aside0.mk (LentL.below LY_9.out BL9_2.out); have RA_10 := Aside0.mk (Kd.R_below RA_9.out BL9_2.out); clear DX_9 DE_9 Lx_9 Ll_9 Lb_9 DK_9 RM_9 LY_9 RA_9; have DBb_10 := Aside0.mk (ZBb_.out); clear ZBb_ ZBb BL9_1 BL9_2; clear hm_ hst_ hbl_) | ((with_reducible refine gate_dst (N := 13) rfl ?_); refine box_event ?hg (N := 13) ?hd (cs := #[.int .i64 0, .int .i64 0, .slice none 0 0]) (t := 25) ?hr ?_; (case hd => rfl); (case hg => rfl); (case hr => first | (go_simp; done) | (go_simp; rfl)); intro g13 hg_ w9_1 hm_ hb_; have BL9_1 := Aside0.mk (hb_); have ZBb := Aside0.mk (hm_); have GGBb := Aside0.mk (show w9.heap.size ≤ g13 by rw [hg_]; exact Nat.le_refl _); clear hm_ hb_ hg_) | (go_at_call 36; have hkey := B_8; clear hkey; refine (Out_as (HO36.out A2 cap2 _ (Kd.C_below HARG.out B_8.out)) rfl).mono ?_; rintro e w9 ⟨A13, n13, c13, rfl, hO, hn_, hL, hb⟩; have NB := Aside0.mk (hO.ne (show gK < w8.heap.size from blk_lt DK_8.out)); clear hO hn_; have B_9 := Aside0.mk (below_step B_8.out hb); have DX_9 := Aside0.mk (blk_below DX_8.out hb); have DE_9 := Aside0.mk (blk_below DE_8.out hb); have Lx_9 := Aside0.mk (Lx_8.out.below hb); have Ll_9 := Aside0.mk (Ll_8.out.below hb); have DK_9 := Aside0.mk (blk_below DK_8.out hb); have RM_9 := Aside0.mk (RmS.below RM_8.out hb); have LY_9 := Aside0.mk (LentL.below LY_8.out hb); have RA_9 := Aside0.mk (Kd.R_below RA_8.out hb); clear DX_8 DE_8 Lx_8 Ll_8 DK_8 RM_8 LY_8 RA_8; have Lb_9 := Aside0.mk (hL); clear hb hL) | (go_at_call 35; have hkey := B_7; clear hkey; refine (OutBr_as (rBuild_any lv Lx_7.out HPX.out) HOA.out HML.out).mono ?_; rintro e w8 ⟨A11, c11, rfl, hR, hb⟩; have B_8 := Aside0.mk (below_step B_7.out hb); have DX_8 := Aside0.mk (blk_below DX_7.out hb); have DE_8 := Aside0.mk (blk_below DE_7.out hb); have Lx_8 := Aside0.mk (Lx_7.out.below hb); have Ll_8 := Aside0.mk (Ll_7.out.below hb); have DK_8 := Aside0.mk (blk_below DK_7.out hb); have RM_8 := Aside0.mk (RmS.below RM_7.out hb); have LY_8 := Aside0.mk (LentL.below LY_7.out hb); clear DX_7 DE_7 Lx_7 Ll_7 DK_7 RM_7 LY_7; have RA_8 := Aside0.mk (hR); clear hR; clear hb) | ((with_reducible refine gate_dst (N := 32) rfl ?_); refine loadP_g rfl ?hw gX _ _ _ rfl DX_7.out ?_; (case hw => rfl)) | ((with_reducible refine gate_store (p := 9) rfl ?_); refine storeP_event rfl rfl rfl g9 x y (some ⟨r, 0, none⟩) n c5 _ _ _ rfl rfl ZE.out ?_; intro w7 hm_ hst_ hbl_; have BL6_2 := Aside0.mk (BL6_1.out.trans (hbl_ _ GGE.out)); have ZE_ := Aside0.mk hm_; have B_7 := Aside0.mk (below_step B_6.out BL6_2.out); have DX_7 := Aside0.mk (blk_below DX_6.out BL6_2.out); have Lx_7 := Aside0.mk (Lx_6.out.below BL6_2.out); have Ll_7 := Aside0.mk (Ll_6.out.below BL6_2.out); have DK_7 := Aside0.mk (blk_below DK_6.out BL6_2.out); have RM_7 := Aside0.mk (RmS.below RM_6.out BL6_2.out); have LY_7 := Aside0.mk (LentL.below LY_6.out BL6_2.out); clear DX_6 Lx_6 Ll_6 DK_6 RM_6 LY_6; have DE_7 := Aside0.mk (ZE_.out); clear ZE_ ZE BL6_1 BL6_2; clear hm_ hst_ hbl_) | ((with_reducible refine gate_dst (N := 9) rfl ?_); refine box_event ?hg (N := 9) ?hd (cs := #[.int .i64 0, .int .i64 0, .slice none 0 0]) (t := 25) ?hr ?_; (case hd => rfl); (case hg => rfl); (case hr => first | (go_simp; done) | (go_simp; rfl)); intro g9 hg_ w6_1 hm_ hb_; have BL6_1 := Aside0.mk (hb_); have ZE := Aside0.mk (hm_); have GGE := Aside0.mk (show w6.heap.size ≤ g9 by rw [hg_]; exact Nat.le_refl _); clear hm_ hb_ hg_) | (go_at_call 34; refine (roomPlanes gM w4.heap.size A2 n2 cap2 l hs5 ws5 _ RM_5.out LTM.out T_5.out.size (fun wr T => Kd.C_below HARG.out (B_5.out.trans (T.below LTW.out HGM.out))) hb40 HPB.out (by have := HL5.out; simp at this; omega)).mono ?_; rintro e w6 ⟨ro, co, cs, hs6, ws6, rfl, hco, hro, hLL, hK, hT, hQ⟩; have B_6 := Aside0.mk (B_5.out.trans (hT.below LTW.out HGM.out)); have Lx_6 := Aside0.mk (C_butPL Lx_5.out (fun k hk => hT.block k (Nat.lt_of_lt_of_le hk.1 LTW.out) hk.2) (fun ad hA hp => ⟨C_lt HX.out.1 ad hA hp, by have := C_lt HX.out.1 ad hA hp; have := HGM.out; omega⟩)); have DX_6 := Aside0.mk ((hT.block gX LTX.out NXM.out).trans DX_5.out); have DK_6 := Aside0.mk ((hT.block gK LTK.out NKM.out).trans DK_5.out); have RM_6 := Aside0.mk (hK); have Ll_6 := Aside0.mk (show PL w6 (some ⟨r, 0, none⟩) n c5 p from ⟨C_at Ll_5.out.1 (hQ r _ _ KL_5.out (.inl rfl)), Ll_5.out.2⟩); have LY_6 := Aside0.mk (hLL); have HCO := Aside0.mk (hco); have T4_6 := Aside0.mk (show But w4.heap.size gM w4 w6 from T_5.out.trans hT); clear hco hro hLL hK hT hQ) | (go_at_call 13; refine (roomPlane gM w4.heap.size x y A n cap p [] [] _ (RmS.new DM_4.out) (blk_lt DM_4.out) (Nat.le_refl _) Lx_4.out hb4 (Nat.zero_le _)).mono ?_; rintro e w5 ⟨r, c5, hs5, ws5, rfl, hL5, hr5, hK5, hl5, hT5, hQ5, cl5, hc5⟩; have T_5 := Aside0.mk (hT5); have LTW := Aside0.mk (show w.heap.size ≤ w4.heap.size from B_4.out.size); have B_5 := Aside0.mk (B_4.out.trans (hT5.below B_4.out.size HGM.out)); have Lx_5 := Aside0.mk (hT5.PL Lx_4.out (fun ad hA hp => by have := C_lt HX.out.1 ad hA hp; have := HGM.out; omega)); have DX_5 := Aside0.mk (hT5.at_ DX_4.out (blk_lt DX_4.out) (blk_ne DX_4.out DM_4.out (by decide))); have DK_5 := Aside0.mk (hT5.at_ DK_4.out (blk_lt DK_4.out) (blk_ne DK_4.out DM_4.out (by decide))); have NXM := Aside0.mk (show gX ≠ gM from blk_ne DX_4.out DM_4.out (by decide)); have NKM := Aside0.mk (show gK ≠ gM from blk_ne DK_4.out DM_4.out (by decide)); have LTX := Aside0.mk (show gX < w4.heap.size from blk_lt DX_4.out); have LTK := Aside0.mk (show gK < w4.heap.size from blk_lt DK_4.out); have LTM := Aside0.mk (show gM < w4.heap.size from blk_lt DM_4.out); have RM_5 := Aside0.mk (hK5); have Ll_5 := Aside0.mk (hL5); have HL5 := Aside0.mk (hl5); have KL_5 := Aside0.mk (hc5); have HRK := Aside0.mk (show r ≠ gK by have := blk_lt DK_4.out; omega); clear hL5 hr5 hK5 hl5 hT5 hQ5 hc5) | ((with_reducible refine gate_dst (N := 26) rfl ?_); refine loadP_g rfl ?hw gX _ _ _ rfl DX_4.out ?_; (case hw => rfl)) | ((with_reducible refine gate_dst (N := 24) rfl ?_); refine box_event ?hg (N := 24) ?hd (cs := #[.slice none 0 0, .slice none 0 0, .slice none 0 0, .slice none 0 0, .slice none 0 0, .slice none 0 0, .slice none 0 0, .slice none 0 0]) (t := 37) ?hr ?_; (case hd => rfl); (case hg => rfl); (case hr => first | (go_simp; done) | (go_simp; rfl)); intro gM hg_ w4 hm_ hb_; have B_4 := Aside0.mk (below_step B_3.out hb_); have DX_4 := Aside0.mk (blk_below DX_3.out hb_); have Lx_4 := Aside0.mk (Lx_3.out.below hb_); have DK_4 := Aside0.mk (blk_below DK_3.out hb_); clear DX_3 Lx_3 DK_3; have DM_4 := Aside0.mk (hm_); have HGM := Aside0.mk (show w.heap.size ≤ gM by rw [hg_]; exact B_3.out.size); clear hm_ hb_ hg_) | ((with_reducible refine gate_dst (N := 22) rfl ?_); refine box_event ?hg (N := 22) ?hd (cs := #[.slice none 0 0, .slice none 0 0, .slice none 0 0, .slice none 0 0, .slice none 0 0, .slice none 0 0, .slice none 0 0, .slice none 0 0]) (t := 34) ?hr ?_; (case hd => rfl); (case hg => rfl); (case hr => first | (go_simp; done) | (go_simp; rfl)); intro gK hg_ w3 hm_ hb_; have B_3 := Aside0.mk (below_step B_2.out hb_); have DX_3 := Aside0.mk (blk_below DX_2.out hb_); have Lx_3 := Aside0.mk (Lx_2.out.below hb_); clear DX_2 Lx_2; have DK_3 := Aside0.mk (hm_); have HGW := Aside0.mk (show w.heap.size ≤ gK by rw [hg_]; exact B_2.out.size); clear hm_ hb_ hg_) | (go_at_call 12; refine (known_calls _).mono ?_; rintro e w2 ⟨rfl, hb⟩; have B_2 := Aside0.mk (below_step B_1.out hb); have DX_2 := Aside0.mk (blk_below DX_1.out hb); have Lx_2 := Aside0.mk (Lx_1.out.below hb); clear DX_1 Lx_1; clear hb) | ((with_reducible refine gate_dst (N := 3) rfl ?_); refine box_event ?hg (N := 3) ?hd (cs := #[.int .i64 x, .int .i64 y, .slice A n cap]) (t := 25) ?hr ?_; (case hd => rfl); (case hg => rfl); (case hr => first | (go_simp; done) | (go_simp; rfl)); intro gX hg_ w1 hm_ hb_; have B_1 := Aside0.mk (below_step B_0.out hb_); have Lx_1 := Aside0.mk (Lx_0.out.below hb_); clear Lx_0; have DX_1 := Aside0.mk (hm_); clear hm_ hb_ hg_))
 generalize w10 = W0 at *
 have HKE : Aside0 (∀ w', But W0.heap.size gK W0 w' → w'.heap[g9]? = some (.cells #[.int .i64 x, .int .i64 y, .slice (some ⟨r, 0, none⟩) n c5] 25 (0, 0))) := ⟨fun w' T => T.at_ DE_10.out (blk_lt DE_10.out) (blk_ne DE_10.out DK_10.out (by decide))⟩
 have HKB : Aside0 (∀ w', But W0.heap.size gK W0 w' → w'.heap[g13]? = some (.cells #[.int .i64 bx, .int .i64 by_, .slice A13 n13 c13] 25 (0, 0))) := ⟨fun w' T => T.at_ DBb_10.out (blk_lt DBb_10.out) (blk_ne DBb_10.out DK_10.out (by decide))⟩
 have HLl : Aside0 (∀ w', But W0.heap.size gK W0 w' → PL w' (some ⟨r, 0, none⟩) n c5 p) := ⟨fun w' T => T.PL Ll_10.out (fun ad hA _ => by injection hA with hA; subst hA; exact HRK.out)⟩
 have HLb : Aside0 (∀ w', But W0.heap.size gK W0 w' → PL w' A13 n13 c13 bl) := ⟨fun w' T => T.PL Lb_10.out NB.out⟩
 have HRA : Aside0 (∀ w', But W0.heap.size gK W0 w' → Kd.C k25 w' A11 ml la ∧ ml ≤ c11) := ⟨fun w' T => by
  have h := Kd.R_reads' (k25_but RA_10.out DK_10.out T)
  rw [HML.out] at h
  exact ⟨h.2.2, h.2.1⟩⟩
 have HLY : Aside0 (∀ w', But W0.heap.size gK W0 w' → Kd.C k25 w' (some ⟨ro, 0, none⟩) n2 l) := ⟨fun w' T => by
  have h := (LY_10.out.but DK_10.out T).C (by have := HLN.out; have := HNF.out; omega)
  rw [HLN.out] at h
  exact h⟩
 have HGK : Aside0 (gK < W0.heap.size) := ⟨blk_lt DK_10.out⟩
 have HK0 : Aside0 (BkSamples W0 gK W0.heap.size [] []) := ⟨BkSamples.new DK_10.out⟩
 have HBW := B_10
 have HRM := RM_10
 have HDK := DK_10
 have HAG : Aside0 (∀ w', But W0.heap.size gK W0 w' → Kd.C k25 w' A2 n2 l) := ⟨fun w' T => Kd.C_below HARG.out (HBW.out.trans (T.below HBW.out.size HGW.out))⟩
 clear DE_10 DBb_10 Ll_10 Lb_10 Lx_10 DX_10 RA_10 LY_10 NB HRK KL_5 T_5 T4_6
 go_loopw [15] (fun v wr => ∃ (j : Nat) (hs : List Hd) (ms : List Int), j ≤ 2 ∧ v = .int .i64 j ∧ hs.length ≤ 14 * j ∧ Aside0 (BkSamples wr gK W0.heap.size hs ms) ∧ Aside0 (But W0.heap.size gK W0 wr)) (fun v _ => 2 - (intOf v).toNat)
 case atStart => exact ⟨0, [], [], by omega, rfl, by simp, HK0, ⟨.refl _ _ _⟩⟩
 case round =>
  obtain ⟨j, hs, ms, hj, rfl, hhl, K_100, T_100⟩ := hrel
  have HHL : Aside0 (hs.length ≤ 28) := ⟨by omega⟩
  have HHJ := Aside0.mk hhl
  clear hhl
  by_cases hlt : j < 2
  ·have t1 : decide ((j : Int) < 2) = true := decide_eq_true (by omega)
   have HJ2 := Aside0.mk hlt
   go_wp2_with (first | (go_at_call 19; have hkey := T_108; clear hkey; refine (bookPlane gK W0.heap.size _ bx by_ _ A18 n18 c18 _ _ _ bl K_108.out HGK.out T_108.out.size Oq_108.out BS_q.out AP_q.out ?h3).mono ?_; (case h3 => have := HHL.out; have := H13.out; have := HL9.out; omega); rintro e w109 ⟨rfl, ⟨kd109, hk⟩, ht, hz⟩; have T_109 := Aside0.mk (T_108.out.trans ht); have K_109 := Aside0.mk (hk); have DF_109 := Aside0.mk ((hz g18 _ _ DF_108.out (.inl rfl)).trans DF_108.out); clear hk ht hz) | ((with_reducible refine gate_dst (N := 89) rfl ?_); have hkey := T_108; clear hkey; refine loadP_g rfl ?hw g18 _ _ _ rfl DF_108.out ?_; (case hw => rfl)) | (go_at_call 38; have hkey := T_107; clear hkey; refine (samePs (HLY.out _ T_107.out) HCO.out (HAG.out _ T_107.out) HAC.out HLFEW.out HNF.out).mono ?_; rintro e w108 ⟨rfl, hb⟩; have T_108 := Aside0.mk (But.step T_107.out hb); have K_108 := Aside0.mk (K_107.out.below hb); have Oq_108 := Aside0.mk (Ow.mono Oq_107.out hb (Nat.le_refl _)); have DF_108 := Aside0.mk (blk_below DF_107.out hb); clear hb) | (go_at_call 18; have hkey := T_106; clear hkey; refine (sameP bx by_ Oq_106.out.asPL (HLb.out _ T_106.out) HBL.out).mono ?_; rintro e w107 ⟨rfl, hb⟩; have T_107 := Aside0.mk (But.step T_106.out hb); have K_107 := Aside0.mk (K_106.out.below hb); have Oq_107 := Aside0.mk (Ow.mono Oq_106.out hb (Nat.le_refl _)); have DF_107 := Aside0.mk (blk_below DF_106.out hb); clear hb) | ((with_reducible refine gate_dst (N := 78) rfl ?_); have hkey := T_106; clear hkey; refine loadP_g rfl ?hw g13 _ _ _ rfl (HKB.out _ T_106.out) ?_; (case hw => rfl)) | ((with_reducible refine gate_dst (N := 77) rfl ?_); have hkey := T_106; clear hkey; refine loadP_g rfl ?hw g18 _ _ _ rfl DF_106.out ?_; (case hw => rfl)) | ((with_reducible refine gate_store (p := 18) rfl ?_); refine storeP_event rfl rfl rfl g18 bx by_ A18 n18 c18 _ _ _ rfl rfl DF_105.out ?_; intro w106 hm_ hst_ hbl_; have hkey := T_105; clear hkey; have T_106 := Aside0.mk (T_105.out.trans (.of_below (hbl_ _ GF.out))); have K_106 := Aside0.mk (K_105.out.st DF_105.out hst_); have Oq_106 := Aside0.mk (Ow.st Oq_105.out DF_105.out hst_); have DF_106 := Aside0.mk (hm_); clear hm_ hst_ hbl_) | ((with_reducible refine gate_dst (N := 18) rfl ?_); refine box_event ?hg (N := 18) ?hd (cs := #[.int .i64 0, .int .i64 0, .slice none 0 0]) (t := 25) ?hr ?_; (case hd => rfl); (case hg => rfl); (case hr => first | (go_simp; done) | (go_simp; rfl)); intro g18 hg_ w105 hm_ hb_; have hkey := T_104; clear hkey; have T_105 := Aside0.mk (But.step T_104.out hb_); have K_105 := Aside0.mk (K_104.out.below hb_); have Oq_105 := Aside0.mk (Ow.mono Oq_104.out hb_ (Nat.le_refl _)); have DF_105 := Aside0.mk (hm_); have GF := Aside0.mk (show W0.heap.size ≤ g18 by rw [hg_]; exact T_104.out.size); clear hm_ hb_ hg_) | (go_at_call 40; have hkey := T_103; clear hkey; refine (Out_as (HO40.out (some ⟨ro, 0, none⟩) co _ (HLY.out _ T_103.out)) rfl).mono ?_; rintro e w104 ⟨A18, n18, c18, rfl, hO, hn_, hL_, hb⟩; have T_104 := Aside0.mk (But.step T_103.out hb); have K_104 := Aside0.mk (K_103.out.below hb); have Oq_104 := Aside0.mk (hO); have AP_q := Aside0.mk (Ow.apart hO K_103.out.apart); have BS_q := Aside0.mk (T_103.out.size); clear hO hn_ hL_ hb) | (go_at_call 39; have hkey := T_102; clear hkey; refine (bookPlanes gK W0.heap.size wr.heap.size _ _ es ss hs ms _ K_102.out HGK.out T_102.out.size PO_102.out BS16.out AP16.out ?h3).mono ?_; (case h3 => have := HHL.out; have := H13.out; omega); rintro e w103 ⟨rfl, ⟨hs9, ms9, hk, hl9⟩, ht⟩; have T_103 := Aside0.mk (T_102.out.trans ht); have K_103 := Aside0.mk (hk); have HL9 := Aside0.mk (hl9); clear hk hl9 ht) | (go_at_call 38; have hkey := T_101; clear hkey; refine (samePs CL_101.out HC16.out (HRA.out _ T_101.out).1 (HRA.out _ T_101.out).2 HMF.out.2 HMF.out.1).mono ?_; rintro e w102 ⟨rfl, hb⟩; have T_102 := Aside0.mk (But.step T_101.out hb); have K_102 := Aside0.mk (K_101.out.below hb); have PO_102 := Aside0.mk (PO_101.out.below hb); clear hb) | (go_at_call 17; refine (num_calls _ _).mono ?_; rintro e wz ⟨rfl, hw_⟩; have h := hw_.symm; clear hw_; subst h) | (go_at_call 37; have hkey := T_100; clear hkey; refine (OutB_as (Build_any lv (HLl.out _ T_100.out) HPX.out) HOA.out HML.out).mono ?_; rintro e w101 ⟨A16, c16, es, ss, rfl, hO, h13, hC16, hc16, hb⟩; have T_101 := Aside0.mk (But.step T_100.out hb); have K_101 := Aside0.mk (K_100.out.below hb); have PO_101 := Aside0.mk (hO); have H13 := Aside0.mk (h13); have CL_101 := Aside0.mk (hC16); have HC16 := Aside0.mk (hc16); have AP16 := Aside0.mk (K_100.out.apart); have BS16 := Aside0.mk (T_100.out.size); clear hO h13 hC16 hc16 hb) | ((with_reducible refine gate_dst (N := 47) rfl ?_); have hkey := T_100; clear hkey; refine loadP_g rfl ?hw g9 _ _ _ rfl (HKE.out _ T_100.out) ?_; (case hw => rfl)))
   go_roundw
   case measure => simp [intOf]; have := HJ2.out; omega
   case rel => exact ⟨j + 1, _, _, HJ2.out, by go_num, by have := HHJ.out; have := H13.out; have := HL9.out; simp; omega, K_109, T_109⟩
  ·obtain rfl : j = 2 := by omega
   have Z : Aside0 (Below w.heap.size w wr) := ⟨HBW.out.trans (T_100.out.below HBW.out.size HGW.out)⟩
   have RR : Aside0 (RmS wr gM w4.heap.size hs6 ws6) := ⟨HRM.out.but (Nat.le_refl _) HDK.out T_100.out⟩
   go_wp2_with (first | (go_at_call 21; refine (bookHold gK _ _ _ _ K_100.out).mono ?_; rintro e w190 ⟨rfl, b10⟩; have B10 := Aside0.mk b10; clear b10) | (go_at_call 22; refine (roomHold gM _ _ _ _ (RR.out.below B10.out)).mono ?_; rintro e w191 ⟨rfl, b11⟩; have B11 := Aside0.mk (below_step (below_step Z.out B10.out) b11); clear b11))
   go_ret
   exact ⟨rfl, B11.out⟩
end Go.Proofs.Ytodlgdpkadkjjaa.A
end
section
-- PRINTED WORDS (module Derived/Print/Sized.lean): go-gate-2's, for the rows of laws over slices: an AI agent of Go's test side, Tue Nov 17 2026; no person has read it. Lean checks it.
namespace Go.Proofs.YtodlgdpkadkjjaaW.PrintWords
open Go.ChangeShapes Go.WideShapes
/-- A row's slice of whole numbers is no longer than its weight allows. -/
theorem sized_ints {H : Type} {enc : TypeId × Value → H} {P : Program} {W : World} {base : Nat} {spare : Nat → Bool} {held : Bool} {t e : TypeId} {k : IntKind} {a : Option Addr} {len cap : Nat} {d : DataW H} {ps : List MemPlace} {ts : List TypeId} {ds : List (DataW H)} {j : Nat}
    (hsz : (DataW.weightsEach P ts ds).all (· ≤ reachBytes) = true) (ht : ts[j]? = some t) (hd : ds[j]? = some d) (hu : P.underlying t = some (.slice e)) (he : P.underlying e = some (.int k)) (hc : P.cellsOf e = 1) {B : Nat} (hB : P.bytesOf e = B)
    (h : DataW.Trod enc P W base spare held t (.slice a len cap) d ps) : len * B ≤ 140737488351232 := by
 obtain ⟨fuel, hf⟩ := h
 rcases open_ints hu he hc hf with ⟨hcs, _⟩ | ⟨x, l, c, zs, hcs, _, hl, _, hz, hx, _, _⟩
 ·simp [Value.cells] at hcs
  obtain ⟨rfl, rfl, rfl⟩ := hcs
  simp
 ·simp [Value.cells] at hcs
  obtain ⟨rfl, rfl, rfl⟩ := hcs
  obtain ⟨hx, _⟩ := Prod.mk.inj hx
  subst hx
  have z := sized_slice hsz ht hd hu
  rw [hB] at z
  have hl2 : len ≤ zs.length := by
   rw [hz]
   split
   ·exact hl
   ·exact Nat.le_refl _
  have h1 : (lits (H := H) k (zs.take len)).length + (lits (H := H) k (zs.drop len)).length = zs.length := by
   simp [lits]
   omega
  rw [h1] at z
  exact Nat.le_trans (Nat.mul_le_mul_right _ hl2) z
end Go.Proofs.YtodlgdpkadkjjaaW.PrintWords
end
section
set_option linter.unusedVariables false
set_option linter.unusedSimpArgs false
namespace Go.Proofs.Ytodlgdpkadkjjaa.A
open Go.RowKit Go.ChangeShapes Go.WideShapes Go.ChangeAt Go.Proofs.YtodlgdpkadkjjaaW.PrintWords Go.Proofs.YtodlgdpkadkjjaaW.PrintLast Go.Proofs.YtodlgdpkadkjjaaW.PrintMore Go.Proofs.Ytodlgdpkadkjjaa.PPyramidLevels

theorem list_choose {α : Type} {P : Nat → α → Prop} : ∀ (n : Nat), (∀ i, i < n → ∃ a, P i a) → ∃ l : List α, l.length = n ∧ ∀ i a, l[i]? = some a → P i a := by
 intro n
 induction n with
 | zero => intro _; exact ⟨[], rfl, fun i a h => by simp at h⟩
 | succ n ih =>
  intro h
  obtain ⟨l, hl, hp⟩ := ih (fun i hi => h i (by omega))
  obtain ⟨a, ha⟩ := h n (by omega)
  refine ⟨l ++ [a], by simp [hl], fun i b hb => ?_⟩
  by_cases hi : i < n
  ·rw [List.getElem?_append_left (by omega)] at hb; exact hp i b hb
  ·rw [List.getElem?_append_right (by omega)] at hb
   have : i - l.length = 0 := by
    have := (List.getElem?_eq_some_iff.1 hb).1
    simp at this; omega
   rw [this] at hb
   simp at hb
   subst hb
   rw [show i = n by omega]; exact ha
theorem cells3 : Try.prog.cellsOf 3 = 1 := by kernel_rfl
theorem cells23 : Try.prog.cellsOf 23 = 1 := by kernel_rfl
theorem cells25 : Try.prog.cellsOf 25 = 3 := by kernel_rfl
theorem bytes25 : Try.prog.bytesOf 25 = 40 := by kernel_rfl
section
variable {H : Type} {enc : TypeId × Value → H} {W : World}
theorem plane_open {fuel : Nat} {cs : List Value} {y : DataW H × List MemPlace} (h : DataW.trod enc Try.prog W 0 (fun _ => true) true fuel 25 cs = some y) (hw : ∀ n ∈ y.1.weights Try.prog 25, n ≤ reachBytes) :
    ∃ (x : S25) (A2 : Option Addr) (c2 : Nat) (q : List Nat), cs = [.int .i64 x.f0, .int .i64 x.f1, .slice A2 x.f2.length c2] ∧ x.f2.length ≤ c2 ∧ (Kd.int .u32).C W A2 x.f2.length x.f2 ∧ x.f2 = ints q ∧ (∀ j, gt q j < 4294967296) ∧ q.length * 4 ≤ 140737488351232 := by
 obtain ⟨y0, y1, y2, n, rfl, hlen, h0, h1, h2⟩ := Go.Deep.trod_struct3 Try.underlying25 h
 simp only at h0 h1 h2
 rw [cells3] at h0 h1
 rw [cells23] at h2
 have hc3 : cs.length = 3 := hlen.trans cells25
 obtain ⟨v0, v1, v2, rfl⟩ : ∃ a b c, cs = [a, b, c] := by
  match cs, hc3 with
  | [a, b, c], _ => exact ⟨a, b, c, rfl⟩
 have h0 : DataW.trod enc Try.prog W 0 (fun _ => true) true n 3 [v0] = some y0 := h0
 have h1 : DataW.trod enc Try.prog W 0 (fun _ => true) true n 3 [v1] = some y1 := h1
 have h2 : DataW.trod enc Try.prog W 0 (fun _ => true) true n 23 [v2] = some y2 := h2
 have hin : (DataW.weightsEach Try.prog [3, 3, 23] [y0.1, y1.1, y2.1]).all (· ≤ reachBytes) = true := by
  refine List.all_eq_true.2 fun m hm => ?_
  have h9 := hw m (by simp only [DataW.weights, Try.underlying25]; exact hm)
  exact decide_eq_true h9
 obtain ⟨s, e0, rfl, _⟩ := DataW.trod_int Try.underlying3 h0
 obtain ⟨t, e1, rfl, _⟩ := DataW.trod_int Try.underlying3 h1
 injection e0 with e0 _
 injection e1 with e1 _
 subst e0 e1
 rcases open_ints Try.underlying23 Try.underlying50 (by kernel_rfl) h2 with ⟨hcs, hx⟩ | ⟨x, len, cap, zs, hcs, _, hl, hm, hz, hx, hcell, hwz⟩
 ·injection hcs with hcs _
  subst hcs
  refine ⟨⟨s, t, []⟩, none, 0, [], rfl, Nat.le_refl _, ?_, rfl, fun j => by unfold gt; simp, by simp⟩
  obtain ⟨xs, hxs, hC, _, _⟩ := natRow (k := .u32) (m := 4294967296) (by omega) (fun _ h => wf32 h) (w := W) (a := none) (len := 0) (cap := 0) (zs := []) (.inl ⟨rfl, rfl, rfl, rfl⟩)
  obtain rfl : xs = [] := List.eq_nil_of_length_eq_zero hxs.symm
  exact C_ints hC
 ·injection hcs with hcs _
  subst hcs
  have hsz := sized_ints hin (j := 2) (t := 23) rfl rfl Try.underlying23 Try.underlying50 (by kernel_rfl) (B := 4) (by kernel_rfl) ⟨_, h2⟩
  have hz' : zs.length = cap := by simpa using hz
  obtain ⟨xs, rfl, hC, hc, hg⟩ := natRow (k := .u32) (m := 4294967296) (by omega) (fun _ h => wf32 h) (w := W) (a := some x) (len := len) (cap := cap) (zs := zs) (.inr ⟨_, rfl, hl, hm, hz', hcell, hwz⟩)
  exact ⟨⟨s, t, ints xs⟩, some x, cap, xs, by rw [ints_length], by show (ints xs).length ≤ cap; rw [ints_length]; exact hc, by show (Kd.int .u32).C W (some x) (ints xs).length (ints xs); rw [ints_length]; exact C_ints hC, rfl, hg, hsz⟩
theorem weightsAll_mem {P : Program} {e : TypeId} : ∀ {l : List (DataW H)} {d : DataW H}, d ∈ l → ∀ n ∈ d.weights P e, n ∈ DataW.weightsAll P e l
 | a :: r, d, hd, n, hn => by
  simp only [DataW.weightsAll, List.mem_append]
  rcases List.mem_cons.mp hd with rfl | hd
  ·exact .inl hn
  ·exact .inr (weightsAll_mem hd n hn)
theorem planes_open {fuel : Nat} {a : Option Addr} {len cap : Nat} {y : DataW H × List MemPlace} (h : DataW.trod enc Try.prog W 0 (fun _ => true) true fuel 67 [.slice a len cap] = some y) (hw : ∀ n ∈ y.1.weights Try.prog 67, n ≤ reachBytes) :
    ∃ l : List S25, l.length = len ∧ len ≤ cap ∧ Kd.C k25 W a len l ∧ (∀ i : Nat, i < len → ∃ q : List Nat, (rd_T25 l (i : Int)).f2 = ints q ∧ (∀ j, gt q j < 4294967296) ∧ q.length * 4 ≤ 140737488351232) ∧ len * 40 ≤ 140737488351232 := by
 rcases Go.Deep.open_slice Try.underlying67 h with ⟨hcs, rfl⟩ | ⟨ad, len', cap', m, n, D, Pl, hcs, _, hl, hm, rfl, rfl, hel⟩
 ·injection hcs with hcs _
  injection hcs with e1 e2 e3
  subst e1 e2 e3
  exact ⟨[], rfl, Nat.le_refl _, ⟨rfl, by decide, fun h => absurd h (by decide)⟩, fun i hi => absurd hi (by omega), by simp⟩
 injection hcs with hcs _
 injection hcs with e1 e2 e3
 subst e1 e2 e3
 have hD : ∀ i, i < len → ∀ n ∈ (D i).weights Try.prog 25, n ≤ reachBytes := fun i hi n hn => by
  refine hw n ?_
  simp only [DataW.weights, Try.underlying67, List.mem_cons, List.mem_append]
  exact .inr (.inl (weightsAll_mem (List.mem_map.mpr ⟨i, List.mem_range.mpr hi, rfl⟩) n hn))
 have h40 : len * 40 ≤ 140737488351232 := by
  have h9 := hw ((len + (cap - len)) * Try.prog.bytesOf 25) (by simp [DataW.weights, Try.underlying67])
  rw [bytes25] at h9
  have h8 : reachBytes = 140737488351232 := by decide
  rw [h8] at h9
  omega
 obtain ⟨l, hll, hp⟩ := list_choose (α := S25) (P := fun i x => ∃ (cs' : List Value) (A2 : Option Addr) (c2 : Nat) (q : List Nat), W.cells? 0 (ad.add (i * 3)) 3 = some cs' ∧ cs' = [.int .i64 x.f0, .int .i64 x.f1, .slice A2 x.f2.length c2] ∧ x.f2.length ≤ c2 ∧ (Kd.int .u32).C W A2 x.f2.length x.f2 ∧ x.f2 = ints q ∧ (∀ j, gt q j < 4294967296) ∧ q.length * 4 ≤ 140737488351232) len (fun i hi => by
  obtain ⟨cs', h1, h2⟩ := hel i (by show i < cap; omega)
  rw [cells25] at h1
  obtain ⟨x, A2, c2, q, h3, h4⟩ := plane_open h2 (hD i hi)
  exact ⟨x, cs', A2, c2, q, h1, h3, h4⟩)
 refine ⟨l, hll, hl, ⟨hll, (by have h9 : cap ≤ 9223372036854775807 := hm; omega), fun _ => ⟨ad, rfl, fun j p hj => ?_⟩⟩, fun i hi => ?_, h40⟩
 ·obtain ⟨cs', A2, c2, q, h1, rfl, h3, h4, _, _⟩ := hp j p hj
  have hc := (World.cells?_some h1).2.2
  refine ⟨_, rfl, k25_mk W p h3 h4, fun i u hu => ?_⟩
  match i, hu with
  | 0, hu => exact (hc 0 (by omega)).trans hu
  | 1, hu => exact ((congrArg W.cell? (Addr.add_add ad (j * 3) 1).symm).trans (hc 1 (by omega))).trans hu
  | 2, hu => exact ((congrArg W.cell? (Addr.add_add ad (j * 3) 2).symm).trans (hc 2 (by omega))).trans hu
 ·obtain ⟨cs', A2, c2, q, _, _, _, _, h5, h6, h7⟩ := hp i (rd_T25 l (i : Int)) (by
   unfold rd_T25
   rw [Int.toNat_natCast, List.getD_eq_getElem?_getD, List.getElem?_eq_getElem (by omega)]; rfl)
  exact ⟨q, h5, h6, h7⟩
end
end Go.Proofs.Ytodlgdpkadkjjaa.A
end
