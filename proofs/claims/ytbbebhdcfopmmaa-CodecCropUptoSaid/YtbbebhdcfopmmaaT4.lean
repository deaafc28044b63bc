import Derived.Test.YtbbebhdcfopmmaaT3
import Derived.Deep.Cut
section
set_option linter.unusedVariables false
set_option linter.unusedSimpArgs false
namespace Go.Proofs.Ytbbebhdcfopmmaa.A
open Go.RowKit Go.Proofs.YtbbebhdcfopmmaaW.PrintWords Go.Proofs.YtbbebhdcfopmmaaW.PrintLast Go.Proofs.YtbbebhdcfopmmaaW.PrintMore Go.Proofs.Ytbbebhdcfopmmaa.PCodecNames

theorem grown_step {a b c : World} {g : Nat} (h : a.grownBy b (some g)) (k : Below b.heap.size b c) : a.grownBy c (some g) := ⟨k.os.trans h.os, k.tape.trans h.tape, k.output.trans h.output, Nat.le_trans h.size k.size, fun i hi hne => (k.block i (Nat.lt_of_lt_of_le hi h.size)).trans (h.block i hi hne)⟩
theorem sum_sub {g n : Nat} {A : Option Addr} {l : List Nat} {w : World} (hT : TB w g) (hC : (nat .u8).C w A n l) (hn : l.length = n) (h8 : ∀ i, gt l i < 256) (hl : n < 1152921504606846976) :
    Calls Try.prog 46 #[.pointer (some ⟨g, 0, none⟩), .slice A n n] w fun e w' => e = .returned (.int .u32 ((crc l : Nat) : Int)) ∧ Below w.heap.size w w' := by
 subst hn
 exact sum_calls g A l.length l w hT hC (Nat.le_refl _) h8 hl
theorem Dec_sub {n m : Nat} {A : Option Addr} {l rs : List Nat} {w : World} (hd : dec l m = .ok rs) (hC : (nat .u8).C w A n l) (hn : l.length = n) (h8 : ∀ i, gt l i < 256) (hl : n < 1152921504606846976) (hm : m ≤ 65536) :
    Calls Try.prog 97 #[.slice A n n, .int .i64 (m : Int)] w fun e w' => ∃ v, e = .returned (.tuple #[v, .int .i64 0]) ∧ (nat .u32).R 24 w' w.heap.size (fun _ => True) v rs ∧ Below w.heap.size w w' := by
 subst hn
 exact Decode_ok A l.length l m w rs hd hC (Nat.le_refl _) hl h8 hm
theorem Plane_own {x y : Nat} {A : Option Addr} {c : Nat} {rs zs : List Nat} {w : World} (k : Nat) (hC : (nat .u32).C w A rs.length rs) (hc : rs.length ≤ c) (h : codec_Plane.f k (x : Int) (y : Int) (ints rs) = some ((x : Int), (y : Int), ints zs, 0)) :
    Calls Try.prog 24 #[.int .i64 (x : Int), .int .i64 (y : Int), .slice A rs.length c] w fun e w' => ∃ v, e = .returned (.tuple #[.agg #[.int .i64 (x : Int), .int .i64 (y : Int), v], .int .i64 0]) ∧ (nat .u32).R 24 w' w.heap.size (fun _ => True) v zs ∧ Below w.heap.size w w' := by
 have hC' := C_ints hC
 have h2 := codec_Plane.calls k (x : Int) (y : Int) A c (ints rs) (x : Int) (y : Int) (ints zs) 0 w (by rw [ints_length]; exact hC') (by rw [ints_length]; exact hc) h
 rw [ints_length] at h2
 refine h2.mono ?_
 rintro e w' ⟨v, rfl, hR, hb⟩
 exact ⟨v, rfl, R_nats hR, hb⟩

set_option maxHeartbeats 8000000 in
set_option maxRecDepth 100000 in
theorem part_ok (gf gT i n at0 dw dh cap cv x0 y0 x1 y1 sp pl W H S : Nat) (ad av : Addr) (idx b rs : List Nat) (w0 w : World) (hF : w.heap[gf]? = some (.cells #[.int .i64 (sp : Int), .int .i64 (pl : Int), .int .i64 (W : Int), .int .i64 (H : Int), .int .i64 (S : Int), .pointer (some ⟨gT, 0, none⟩), .slice (some av) idx.length cv, .slice (some ad) b.length cap, .int .i64 (at0 : Int)] 121 (0, 0))) (hT : TB w gT) (hC : (nat .u8).C w0 (some ad) b.length b) (hB : Below w0.heap.size w0 w) (hgf : w0.heap.size ≤ gf) (hI : w.cell? (av.add i) = some (.int .i64 (n : Int))) (hib : (av.add i).block ≠ gf) (hi : i < idx.length)
    (hcap : b.length ≤ cap) (h8 : ∀ i, gt b i < 256) (hl : b.length ≤ 4194304) (hn : at0 + n + 4 ≤ b.length) (hx : x1 = x0 + dw) (hy : y1 = y0 + dh) (hx2 : x1 ≤ 1048576) (hy2 : y1 ≤ 1048576) (hp : (Pl.mk dw dh rs).ok) (hcrc : numL 0 (subN b (at0 + n) 4) = crc (subN b at0 n)) (hdec : dec (subN b at0 n) (dw * dh) = .ok rs) :
    Calls Try.prog 77 #[.pointer (some ⟨gf, 0, none⟩), .int .i64 (i : Int), .agg #[.int .i64 (x0 : Int), .int .i64 (y0 : Int), .int .i64 (x1 : Int), .int .i64 (y1 : Int)]] w fun e w1 => ∃ v, e = .returned (.tuple #[.agg #[.int .i64 (dw : Int), .int .i64 (dh : Int), v], .int .i64 0]) ∧ (nat .u32).R 24 w1 w.heap.size (fun _ => True) v (planeN rs dw) ∧ w.grownBy w1 (some gf) ∧ w1.heap[gf]? = some (.cells #[.int .i64 (sp : Int), .int .i64 (pl : Int), .int .i64 (W : Int), .int .i64 (H : Int), .int .i64 (S : Int), .pointer (some ⟨gT, 0, none⟩), .slice (some av) idx.length cv, .slice (some ad) b.length cap, .int .i64 ((at0 + n + 4 : Nat) : Int)] 121 (0, 0)) := by
 have hu121 := Try.underlying121
 have hu119 := Try.underlying119
 have hu73 := Try.underlying73
 have hu31 := Try.underlying31
 obtain ⟨at1, hat1⟩ : ∃ a, a = at0 + n := ⟨_, rfl⟩
 have HA1 := Aside0.mk hat1
 have HAT : Aside0 (at0 ≤ b.length) := ⟨by omega⟩
 have HN1 : Aside0 (at0 + n ≤ b.length) := ⟨by omega⟩
 have HN2 : Aside0 (at1 + 4 ≤ b.length) := ⟨by omega⟩
 have HL2 : Aside0 (b.length < 4611686018427387904) := ⟨by omega⟩
 have HL3 := Aside0.mk hl
 have HC := Aside0.mk hC
 have HCAP := Aside0.mk hcap
 have H8 := Aside0.mk h8
 have HIB := Aside0.mk hib
 have HF0 := Aside0.mk hF
 have HT0 := Aside0.mk hT
 have HI0 := Aside0.mk hI
 have HP := Aside0.mk hp
 have HCRC := Aside0.mk hcrc
 have HDEC := Aside0.mk hdec
 have HB0 := Aside0.mk hB
 have HGF := Aside0.mk hgf
 obtain ⟨zs, hzs⟩ : ∃ zs, zs = planeN rs dw := ⟨_, rfl⟩
 have HPF : Aside0 (codec_Plane.f (rs.length + 2) (dw : Int) (dh : Int) (ints rs) = some ((dw : Int), (dh : Int), ints zs, 0)) := ⟨by rw [hzs]; exact Plane_f HP.out (rs.length + 1) (Nat.le_refl _)⟩
 rw [← hzs]
 clear hzs
 obtain ⟨ar, har⟩ : ∃ a, a = dw * dh := ⟨_, rfl⟩
 have HAR : Aside0 (ar ≤ 65536) := ⟨by rw [har]; exact hp.2.2.2.2.1⟩
 have HDEC2 : Aside0 (dec (subN b at0 n) ar = .ok rs) := ⟨by rw [har]; exact hdec⟩
 have a5 : (dw : Int) * (dh : Int) = (ar : Int) := by rw [har]; exact (Int.natCast_mul _ _).symm
 have a6 : ar < 4611686018427387904 := by have := HAR.out; omega
 have i1 : ((i : Int) < (idx.length : Int)) = True := eq_true (by omega)
 have i2 : (i < idx.length) = True := eq_true hi
 have a1 : (x1 : Int) - (x0 : Int) = (dw : Int) := by omega
 have a2 : (y1 : Int) - (y0 : Int) = (dh : Int) := by omega
 have a3 : dw < 4611686018427387904 := by omega
 have a4 : dh < 4611686018427387904 := by omega
 clear hF hT hC hB hgf hI hib hi hcap h8 hl hn hx hy hx2 hy2 hp hcrc hdec hat1
 have e1 := wrapI a1 a3
 have e2 := wrapI a2 a4
 have e3 := wrapI a5 a6
 clear a1 a2 a3 a4 a5 a6 har
 go_enter Try.func77, Try.ntmps77
 go_wp2_with (first | ((with_reducible refine gate_dst (N := 5) rfl ?_); refine box_event ?hg (N := 5) ?hd (cs := #[.int .i64 (x0 : Int), .int .i64 (y0 : Int), .int .i64 (x1 : Int), .int .i64 (y1 : Int)]) (t := 73) ?hr ?_; (case hd => rfl); (case hg => rfl); (case hr => first | (go_simp; done) | (go_simp; rfl)); intro gq hg_ w1 hm_ hb_; have Q1 := Aside0.mk (hm_); have F1 := Aside0.mk (blk_below HF0.out hb_); have T1 := Aside0.mk (HT0.out.below hb_); have D1 := Aside0.mk (show w.grownBy w1 (some gf) from grown_step (World.grownBy.refl w _) hb_); have I1 := Aside0.mk ((hb_.cell (World.block_lt_of_cell? w _ HI0.out)).trans HI0.out); have GQ := Aside0.mk (show w.heap.size ≤ gq by rw [hg_]; exact Nat.le_refl _); clear hm_ hb_ hg_) | ((with_reducible refine gate_dst (N := 6) rfl ?_); refine box_event ?hg (N := 6) ?hd (cs := #[.int .i64 0, .int .i64 0, .slice none 0 0]) (t := 31) ?hr ?_; (case hd => rfl); (case hg => rfl); (case hr => first | (go_simp; done) | (go_simp; rfl)); intro gR hg_ w2 hm_ hb_; have R2 := Aside0.mk (hm_); have Q2 := Aside0.mk (blk_below Q1.out hb_); have F2 := Aside0.mk (blk_below F1.out hb_); have T2 := Aside0.mk (T1.out.below hb_); have D2 := Aside0.mk (grown_step D1.out hb_); have I2 := Aside0.mk ((hb_.cell (World.block_lt_of_cell? w1 _ I1.out)).trans I1.out); have GR := Aside0.mk (show w.heap.size ≤ gR by rw [hg_]; exact D1.out.size); clear hm_ hb_ hg_))
 have F3 := Aside0.mk (blk_drew F2.out); have Q3 := Aside0.mk (blk_drew Q2.out); have R3 := Aside0.mk (blk_drew R2.out); have T3 := Aside0.mk (T2.out.below (below_drew1 (Below.refl _ w2)))
 have D3 : Aside0 (w.grownBy w2.drew (some gf)) := ⟨grown_step D2.out (below_drew1 (Below.refl _ _))⟩
 have I3 : Aside0 (w2.drew.cell? (av.add i) = some (.int .i64 (n : Int))) := ⟨I2.out⟩
 clear F2 Q2 R2 T2 D2 I2 F1 Q1 T1 D1 I1
 refine start_ (n := 16) (S := fun w' => w'.cell? ⟨gf, 6, none⟩ = some (.slice (some av) idx.length cv) ∧ w'.cell? (av.add i) = some (.int .i64 (n : Int))) (ds := []) #[ff_,ff_,ff_,ff_,ff_,ff_,ff_,ff_,ff_,ff_,ff_,ff_,ff_,ff_,ff_,ff_] (by kernel_rfl) rfl rfl ⟨(blk_cell F3.out 6).trans rfl, I3.out⟩ (fun hHeld => ?_)
 generalize w2.drew = wd at *
 refine pure_ (i := 0) (N := some 17) (v := ?_) (a' := ?_) #[tt_,ff_,ff_,ff_,ff_,ff_,ff_,ff_,ff_,ff_,ff_,ff_,ff_,ff_,ff_,ff_] rfl rfl (by kernel_rfl) (fun _ _ _ h => h) (Or.inl ⟨by rfl, ?_⟩) ?_ ?_
 rotate_left
 ·intro w'
  go_simp
  with_reducible rfl
 rotate_left
 ·simp only [Act.put, List.setIfInBounds_toArray, List.set_cons_zero, List.set_cons_succ, i64_w, i32_w]
  rfl
 refine pure_ (i := 1) (N := some 18) (v := ?_) (a' := ?_) #[tt_,tt_,ff_,ff_,ff_,ff_,ff_,ff_,ff_,ff_,ff_,ff_,ff_,ff_,ff_,ff_] rfl rfl (by kernel_rfl) (fun _ _ _ h => h) (Or.inl ⟨by rfl, ?_⟩) ?_ ?_
 rotate_left
 ·intro w'
  go_simp
  with_reducible rfl
 rotate_left
 ·simp only [Act.put, List.setIfInBounds_toArray, List.set_cons_zero, List.set_cons_succ, i64_w, i32_w]
  rfl
 refine pure_ (i := 2) (N := some 19) (v := ?_) (a' := ?_) #[tt_,tt_,tt_,ff_,ff_,ff_,ff_,ff_,ff_,ff_,ff_,ff_,ff_,ff_,ff_,ff_] rfl rfl (by kernel_rfl) (fun _ _ _ h => h) (Or.inl ⟨by rfl, ?_⟩) ?_ ?_
 rotate_left
 ·intro w'
  go_simp
  with_reducible rfl
 rotate_left
 ·simp only [Act.put, List.setIfInBounds_toArray, List.set_cons_zero, List.set_cons_succ, i64_w, i32_w]
  rfl
 refine pure_ (i := 3) (N := some 20) (v := ?_) (a' := ?_) #[tt_,tt_,tt_,tt_,ff_,ff_,ff_,ff_,ff_,ff_,ff_,ff_,ff_,ff_,ff_,ff_] rfl rfl (by kernel_rfl) (fun _ _ _ h => h) (Or.inl ⟨by rfl, ?_⟩) ?_ ?_
 rotate_left
 ·intro w'
  go_simp
  with_reducible rfl
 rotate_left
 ·simp only [Act.put, List.setIfInBounds_toArray, List.set_cons_zero, List.set_cons_succ, i64_w, i32_w]
  rfl
 refine pure_ (i := 4) (N := some 21) (v := ?_) (a' := ?_) #[tt_,tt_,tt_,tt_,tt_,ff_,ff_,ff_,ff_,ff_,ff_,ff_,ff_,ff_,ff_,ff_] rfl rfl (by kernel_rfl) (fun _ _ _ h => h) (Or.inl ⟨by rfl, ?_⟩) ?_ ?_
 rotate_left
 ·intro w'
  go_simp
  with_reducible rfl
 rotate_left
 ·simp only [Act.put, List.setIfInBounds_toArray, List.set_cons_zero, List.set_cons_succ, i64_w, i32_w]
  rfl
 refine pure_ (i := 5) (N := some 22) (v := ?_) (a' := ?_) #[tt_,tt_,tt_,tt_,tt_,tt_,ff_,ff_,ff_,ff_,ff_,ff_,ff_,ff_,ff_,ff_] rfl rfl (by kernel_rfl) (fun _ _ _ h => h) (Or.inl ⟨by rfl, ?_⟩) ?_ ?_
 rotate_left
 ·intro w'
  go_simp
  with_reducible rfl
 rotate_left
 ·simp only [Act.put, List.setIfInBounds_toArray, List.set_cons_zero, List.set_cons_succ, i64_w, i32_w]
  rfl
 refine pure_ (i := 7) (N := some 24) (v := ?_) (a' := ?_) #[tt_,tt_,tt_,tt_,tt_,tt_,ff_,tt_,ff_,ff_,ff_,ff_,ff_,ff_,ff_,ff_] rfl rfl (by kernel_rfl) (fun _ _ _ h => h) (Or.inl ⟨by rfl, ?_⟩) ?_ ?_
 rotate_left
 ·intro w'
  go_simp
  with_reducible rfl
 rotate_left
 ·simp only [Act.put, List.setIfInBounds_toArray, List.set_cons_zero, List.set_cons_succ, i64_w, i32_w]
  rfl
 refine take_ (i := 6) (N := some 23) (v := ?_) (a' := ?_) #[tt_,tt_,tt_,tt_,tt_,tt_,tt_,tt_,ff_,ff_,ff_,ff_,ff_,ff_,ff_,ff_] rfl rfl (by kernel_rfl) (fun _ _ _ h => h) (Or.inl ⟨by rfl, ?_⟩) hHeld ?_ ?_
 rotate_left
 ·rintro w' ⟨s0, s1⟩
  go_simp
  with_reducible rfl
 rotate_left
 ·simp only [Act.put, List.setIfInBounds_toArray, List.set_cons_zero, List.set_cons_succ, i64_w, i32_w]
  rfl
 refine pure_ (i := 8) (N := some 25) (v := ?_) (a' := ?_) #[tt_,tt_,tt_,tt_,tt_,tt_,tt_,tt_,tt_,ff_,ff_,ff_,ff_,ff_,ff_,ff_] rfl rfl (by kernel_rfl) (fun _ _ _ h => h) (Or.inl ⟨by rfl, ?_⟩) ?_ ?_
 rotate_left
 ·intro w'
  go_simp
  with_reducible rfl
 rotate_left
 ·simp only [Act.put, List.setIfInBounds_toArray, List.set_cons_zero, List.set_cons_succ, i64_w, i32_w]
  rfl
 refine take_ (i := 9) (N := some 26) (v := ?_) (a' := ?_) #[tt_,tt_,tt_,tt_,tt_,tt_,tt_,tt_,tt_,tt_,ff_,ff_,ff_,ff_,ff_,ff_] rfl rfl (by kernel_rfl) (fun _ _ _ h => h) (Or.inl ⟨by rfl, ?_⟩) hHeld ?_ ?_
 rotate_left
 ·rintro w' ⟨s0, s1⟩
  go_simp
  with_reducible rfl
 rotate_left
 ·simp only [Act.put, List.setIfInBounds_toArray, List.set_cons_zero, List.set_cons_succ, i64_w, i32_w]
  rfl
 refine one_ (i := 10) (N := some 27) #[tt_,tt_,tt_,tt_,tt_,tt_,tt_,tt_,tt_,tt_,tt_,ff_,ff_,ff_,ff_,ff_] rfl rfl (by kernel_rfl) (by decide) (fun K hK => ?_)
 refine goes_ Try.func92 (by kernel_rfl) rfl #[.pointer (some ⟨gf, 7, none⟩), .int .i64 (n : Int)] (by rfl) rfl rfl (by (try simp only [List.map_toArray, List.map_cons, List.map_nil]); rfl) ?_
 refine (take_calls gf 7 n at0 cap ad b w0 _ HC.out ((blk_cell F3.out 7).trans rfl) ((blk_cell F3.out 8).trans rfl) (blk_frozen F3.out 8) HCAP.out HAT.out HL2.out HN1.out).mono ?_
 rintro e w4 ⟨A1, k4, rfl, hC4, hw4⟩
 refine ⟨_, rfl, ?_⟩
 have X4 := Aside0.mk (takeW F3.out hw4)
 have C4 := Aside0.mk hC4
 have Q4 := Aside0.mk ((X4.out.2.1 gq (blk_ne Q3.out F3.out (by decide))).trans Q3.out)
 have R4 := Aside0.mk ((X4.out.2.1 gR (blk_ne R3.out F3.out (by decide))).trans R3.out)
 have F4 : Aside0 (w4.heap[gf]? = some (.cells #[.int .i64 (sp : Int), .int .i64 (pl : Int), .int .i64 (W : Int), .int .i64 (H : Int), .int .i64 (S : Int), .pointer (some ⟨gT, 0, none⟩), .slice (some av) idx.length cv, .slice (some ad) b.length cap, .int .i64 (at1 : Int)] 121 (0, 0))) := ⟨by rw [HA1.out]; exact X4.out.1⟩
 have T4 : Aside0 (TB w4 gT) := ⟨by obtain ⟨ct, hct⟩ := T3.out.block; exact T3.out.move (X4.out.2.1 gT (blk_ne hct F3.out (by decide)))⟩
 have D4 : Aside0 (w.grownBy w4 (some gf)) := ⟨by rw [hw4]; exact gset (gdrewN D3.out _) 8 _⟩
 have I4 : Aside0 (w4.cell? (av.add i) = some (.int .i64 (n : Int))) := ⟨(World.cell?_of_block (X4.out.2.1 _ HIB.out)).trans I3.out⟩
 clear hC4 hw4
 refine hK.out _ _ ⟨(blk_cell F4.out 6).trans rfl, I4.out⟩ (fun hHeld => ?_)
 clear hK K
 refine norm_ (a' := ?_) ?_ ?_
 rotate_left
 ·show Act.put _ (some 27) _ = _
  simp only [Act.put, List.setIfInBounds_toArray, List.set_cons_zero, List.set_cons_succ, i64_w, i32_w]
  rfl
 refine pure_ (i := 11) (N := some 16) (v := ?_) (a' := ?_) #[tt_,tt_,tt_,tt_,tt_,tt_,tt_,tt_,tt_,tt_,tt_,tt_,ff_,ff_,ff_,ff_] rfl rfl (by kernel_rfl) (fun _ _ _ h => h) (Or.inl ⟨by rfl, ?_⟩) ?_ ?_
 rotate_left
 ·intro w'
  go_simp
  with_reducible rfl
 rotate_left
 ·simp only [Act.put, List.setIfInBounds_toArray, List.set_cons_zero, List.set_cons_succ, i64_w, i32_w]
  rfl
 refine pure_ (i := 12) (N := some 28) (v := ?_) (a' := ?_) #[tt_,tt_,tt_,tt_,tt_,tt_,tt_,tt_,tt_,tt_,tt_,tt_,tt_,ff_,ff_,ff_] rfl rfl (by kernel_rfl) (fun _ _ _ h => h) (Or.inl ⟨by rfl, ?_⟩) ?_ ?_
 rotate_left
 ·intro w'
  go_simp
  with_reducible rfl
 rotate_left
 ·simp only [Act.put, List.setIfInBounds_toArray, List.set_cons_zero, List.set_cons_succ, i64_w, i32_w]
  rfl
 refine pure_ (i := 13) (N := some 29) (v := ?_) (a' := ?_) #[tt_,tt_,tt_,tt_,tt_,tt_,tt_,tt_,tt_,tt_,tt_,tt_,tt_,tt_,ff_,ff_] rfl rfl (by kernel_rfl) (fun _ _ _ h => h) (Or.inl ⟨by rfl, ?_⟩) ?_ ?_
 rotate_left
 ·intro w'
  go_simp
  with_reducible rfl
 rotate_left
 ·simp only [Act.put, List.setIfInBounds_toArray, List.set_cons_zero, List.set_cons_succ, i64_w, i32_w]
  rfl
 refine pure_ (i := 14) (N := some 8) (v := ?_) (a' := ?_) #[tt_,tt_,tt_,tt_,tt_,tt_,tt_,tt_,tt_,tt_,tt_,tt_,tt_,tt_,tt_,ff_] rfl rfl (by kernel_rfl) (fun _ _ _ h => h) (Or.inl ⟨by rfl, ?_⟩) ?_ ?_
 rotate_left
 ·intro w'
  go_simp
  with_reducible rfl
 rotate_left
 ·simp only [Act.put, List.setIfInBounds_toArray, List.set_cons_zero, List.set_cons_succ, i64_w, i32_w]
  rfl
 refine pure_ (i := 15) (N := some 9) (v := ?_) (a' := ?_) #[tt_,tt_,tt_,tt_,tt_,tt_,tt_,tt_,tt_,tt_,tt_,tt_,tt_,tt_,tt_,tt_] rfl rfl (by kernel_rfl) (fun _ _ _ h => h) (Or.inl ⟨by rfl, ?_⟩) ?_ ?_
 rotate_left
 ·intro w'
  go_simp
  with_reducible rfl
 rotate_left
 ·simp only [Act.put, List.setIfInBounds_toArray, List.set_cons_zero, List.set_cons_succ, i64_w, i32_w]
  rfl
 refine done_ (by kernel_rfl) ?_
 have B4 : Aside0 (Below w0.heap.size w0 w4) := ⟨HB0.out.trans ⟨D4.out.os, D4.out.tape, D4.out.output, D4.out.size, fun k hk => D4.out.block k (Nat.lt_of_lt_of_le hk HB0.out.size) (by intro e; injection e with e; have := HGF.out; omega)⟩⟩
 have c7 : Aside0 (w4.cell? ⟨gf, 7, none⟩ = some (.slice (some ad) b.length cap)) := ⟨(blk_cell F4.out 7).trans rfl⟩
 have c8 : Aside0 (w4.cell? ⟨gf, 7 + 1, none⟩ = some (.int .i64 (at1 : Int))) := ⟨(blk_cell F4.out 8).trans rfl⟩
 go_wp2_with (go_at_call 92; with_reducible refine (take4 gf 7 at1 cap ad b w0 _ HC.out ?h1 ?h2 ?h3 HCAP.out HL2.out HN2.out).mono ?_; (case h1 => exact c7.out); (case h2 => exact c8.out); (case h3 => exact blk_frozen F4.out 8); rintro e w5 ⟨A2, k5, rfl, hC5, hw5⟩; have X5 := Aside0.mk (takeW F4.out hw5); have C5 := Aside0.mk hC5; have D5 : Aside0 (w.grownBy w5 (some gf)) := ⟨by rw [hw5]; exact gset (gdrewN D4.out _) _ _⟩; have Q5 := Aside0.mk ((X5.out.2.1 gq (blk_ne Q4.out F4.out (by decide))).trans Q4.out); have R5 := Aside0.mk ((X5.out.2.1 gR (blk_ne R4.out F4.out (by decide))).trans R4.out); clear hC5 hw5)
 obtain ⟨at2, hat2⟩ : ∃ a, a = at1 + 4 := ⟨_, rfl⟩
 have HA2 := Aside0.mk hat2
 have F5 : Aside0 (w5.heap[gf]? = some (.cells #[.int .i64 (sp : Int), .int .i64 (pl : Int), .int .i64 (W : Int), .int .i64 (H : Int), .int .i64 (S : Int), .pointer (some ⟨gT, 0, none⟩), .slice (some av) idx.length cv, .slice (some ad) b.length cap, .int .i64 (at2 : Int)] 121 (0, 0))) := ⟨by rw [hat2]; exact X5.out.1⟩
 have T5 : Aside0 (TB w5 gT) := ⟨by obtain ⟨ct, hct⟩ := T4.out.block; exact T4.out.move (X5.out.2.1 gT (blk_ne hct F4.out (by decide)))⟩
 have B5 : Aside0 (Below w0.heap.size w0 w5) := ⟨HB0.out.trans ⟨D5.out.os, D5.out.tape, D5.out.output, D5.out.size, fun k hk => D5.out.block k (Nat.lt_of_lt_of_le hk HB0.out.size) (by intro e; injection e with e; have := HGF.out; omega)⟩⟩
 have HL4 : Aside0 ((subN b at1 4).length = 4) := ⟨subN_length HN2.out⟩
 have HS8 : Aside0 (∀ i, gt (subN b at1 4) i < 256) := ⟨subN_lt H8.out⟩
 have HLN : Aside0 ((subN b at0 n).length = n) := ⟨subN_length HN1.out⟩
 have HN8 : Aside0 (∀ i, gt (subN b at0 n) i < 256) := ⟨subN_lt H8.out⟩
 have HNL : Aside0 (n < 1152921504606846976) := ⟨by have := HN1.out; have := HL3.out; omega⟩
 obtain ⟨cr, hcr⟩ : ∃ c, c = crc (subN b at0 n) := ⟨_, rfl⟩
 have HCR := Aside0.mk hcr
 have HCRC2 : Aside0 (numL 0 (subN b at1 4) = cr) := ⟨by rw [HA1.out, hcr]; exact HCRC.out⟩
 have hcr3 : cr < 4611686018427387904 := by have := crc_lt HN8.out; rw [← hcr] at this; omega
 have F6 := Aside0.mk (blk_drew F5.out); have Q6 := Aside0.mk (blk_drew Q5.out); have R6 := Aside0.mk (blk_drew R5.out); have T6 := Aside0.mk (T5.out.below (below_drew1 (Below.refl _ w5))); have D6 := Aside0.mk (grown_step D5.out (below_drew1 (Below.refl _ _))); have B6 := Aside0.mk (below_drew1 B5.out)
 clear hcr hat2
 have wcr := wrapI (rfl : (cr : Int) = (cr : Int)) hcr3
 clear hcr3 F5 Q5 R5 T5 D5 X5 c7 c8
 refine start_ (n := 10) (S := fun w' => w'.cell? ⟨gf, 5, none⟩ = some (.pointer (some ⟨gT, 0, none⟩))) (ds := []) #[ff_,ff_,ff_,ff_,ff_,ff_,ff_,ff_,ff_,ff_] (by kernel_rfl) rfl rfl ((blk_cell F6.out 5).trans rfl) (fun hHeld => ?_)
 generalize w5.drew = wd2 at *
 refine pure_ (i := 0) (N := some 44) (v := ?_) (a' := ?_) #[tt_,ff_,ff_,ff_,ff_,ff_,ff_,ff_,ff_,ff_] rfl rfl (by kernel_rfl) (fun _ _ _ h => h) (Or.inl ⟨by rfl, ?_⟩) ?_ ?_
 rotate_left
 ·intro w'
  go_simp
  with_reducible rfl
 rotate_left
 ·simp only [Act.put, List.setIfInBounds_toArray, List.set_cons_zero, List.set_cons_succ, i64_w, i32_w]
  rfl
 refine pure_ (i := 2) (N := some 46) (v := ?_) (a' := ?_) #[tt_,ff_,tt_,ff_,ff_,ff_,ff_,ff_,ff_,ff_] rfl rfl (by kernel_rfl) (fun _ _ _ h => h) (Or.inl ⟨by rfl, ?_⟩) ?_ ?_
 rotate_left
 ·intro w'
  go_simp
  with_reducible rfl
 rotate_left
 ·simp only [Act.put, List.setIfInBounds_toArray, List.set_cons_zero, List.set_cons_succ, i64_w, i32_w]
  rfl
 refine pure_ (i := 3) (N := some 47) (v := ?_) (a' := ?_) #[tt_,ff_,tt_,tt_,ff_,ff_,ff_,ff_,ff_,ff_] rfl rfl (by kernel_rfl) (fun _ _ _ h => h) (Or.inl ⟨by rfl, ?_⟩) ?_ ?_
 rotate_left
 ·intro w'
  go_simp
  with_reducible rfl
 rotate_left
 ·simp only [Act.put, List.setIfInBounds_toArray, List.set_cons_zero, List.set_cons_succ, i64_w, i32_w]
  rfl
 refine pure_ (i := 4) (N := some 48) (v := ?_) (a' := ?_) #[tt_,ff_,tt_,tt_,tt_,ff_,ff_,ff_,ff_,ff_] rfl rfl (by kernel_rfl) (fun _ _ _ h => h) (Or.inl ⟨by rfl, ?_⟩) ?_ ?_
 rotate_left
 ·intro w'
  go_simp
  with_reducible rfl
 rotate_left
 ·simp only [Act.put, List.setIfInBounds_toArray, List.set_cons_zero, List.set_cons_succ, i64_w, i32_w]
  rfl
 refine pure_ (i := 6) (N := some 50) (v := ?_) (a' := ?_) #[tt_,ff_,tt_,tt_,tt_,ff_,tt_,ff_,ff_,ff_] rfl rfl (by kernel_rfl) (fun _ _ _ h => h) (Or.inl ⟨by rfl, ?_⟩) ?_ ?_
 rotate_left
 ·intro w'
  go_simp
  with_reducible rfl
 rotate_left
 ·simp only [Act.put, List.setIfInBounds_toArray, List.set_cons_zero, List.set_cons_succ, i64_w, i32_w]
  rfl
 refine take_ (i := 5) (N := some 49) (v := ?_) (a' := ?_) #[tt_,ff_,tt_,tt_,tt_,tt_,tt_,ff_,ff_,ff_] rfl rfl (by kernel_rfl) (fun _ _ _ h => h) (Or.inl ⟨by rfl, ?_⟩) hHeld ?_ ?_
 rotate_left
 ·intro w' s0
  go_simp
  with_reducible rfl
 rotate_left
 ·simp only [Act.put, List.setIfInBounds_toArray, List.set_cons_zero, List.set_cons_succ, i64_w, i32_w]
  rfl
 refine one_ (i := 1) (N := some 45) #[tt_,tt_,tt_,tt_,tt_,tt_,tt_,ff_,ff_,ff_] rfl rfl (by kernel_rfl) (by decide) (fun K hK => ?_)
 refine goes_ Try.func94 (by kernel_rfl) rfl #[.slice A2 4 4] (by rfl) rfl rfl (by (try simp only [List.map_toArray, List.map_cons, List.map_nil]); rfl) ?_
 refine (number4 HL4.out (Kd.C_below C5.out B6.out) (Nat.le_refl 4) HS8.out).mono ?_
 rw [HCRC2.out]
 rintro e w7 ⟨rfl, hb⟩
 refine ⟨_, rfl, ?_⟩
 have F7 := Aside0.mk (blk_below F6.out hb)
 have Q7 := Aside0.mk (blk_below Q6.out hb)
 have R7 := Aside0.mk (blk_below R6.out hb)
 have T7 := Aside0.mk (T6.out.below hb)
 have D7 := Aside0.mk (grown_step D6.out hb)
 have B7 := Aside0.mk (below_step B6.out hb)
 clear hb
 refine hK.out _ _ ((blk_cell F7.out 5).trans rfl) (fun hHeld => ?_)
 clear hK K
 refine norm_ (a' := ?_) ?_ ?_
 rotate_left
 ·show Act.put _ (some 45) _ = _
  simp only [Act.put, List.setIfInBounds_toArray, List.set_cons_zero, List.set_cons_succ, i64_w, i32_w]
  rfl
 refine one_ (i := 7) (N := some 51) #[tt_,tt_,tt_,tt_,tt_,tt_,tt_,tt_,ff_,ff_] rfl rfl (by kernel_rfl) (by decide) (fun K hK => ?_)
 refine goes_ Try.func46 (by kernel_rfl) rfl #[.pointer (some ⟨gT, 0, none⟩), .slice A1 n n] (by rfl) rfl rfl (by (try simp only [List.map_toArray, List.map_cons, List.map_nil]); rfl) ?_
 refine (sum_sub T7.out (Kd.C_below C4.out B7.out) HLN.out HN8.out HNL.out).mono ?_
 rw [← HCR.out]
 rintro e w8 ⟨rfl, hb⟩
 refine ⟨_, rfl, ?_⟩
 have F8 := Aside0.mk (blk_below F7.out hb)
 have Q8 := Aside0.mk (blk_below Q7.out hb)
 have R8 := Aside0.mk (blk_below R7.out hb)
 have T8 := Aside0.mk (T7.out.below hb)
 have D8 := Aside0.mk (grown_step D7.out hb)
 have B8 := Aside0.mk (below_step B7.out hb)
 clear hb
 refine hK.out _ _ ((blk_cell F8.out 5).trans rfl) (fun hHeld => ?_)
 clear hK K
 refine norm_ (a' := ?_) ?_ ?_
 rotate_left
 ·show Act.put _ (some 51) _ = _
  simp only [Act.put, List.setIfInBounds_toArray, List.set_cons_zero, List.set_cons_succ, i64_w, i32_w]
  rfl
 refine pure_ (i := 8) (N := some 52) (v := ?_) (a' := ?_) #[tt_,tt_,tt_,tt_,tt_,tt_,tt_,tt_,tt_,ff_] rfl rfl (by kernel_rfl) (fun _ _ _ h => h) (Or.inl ⟨by rfl, ?_⟩) ?_ ?_
 rotate_left
 ·intro w'
  go_simp
  with_reducible rfl
 rotate_left
 ·simp only [Act.put, List.setIfInBounds_toArray, List.set_cons_zero, List.set_cons_succ, i64_w, i32_w]
  rfl
 refine pure_ (i := 9) (N := some 53) (v := ?_) (a' := ?_) #[tt_,tt_,tt_,tt_,tt_,tt_,tt_,tt_,tt_,tt_] rfl rfl (by kernel_rfl) (fun _ _ _ h => h) (Or.inl ⟨by rfl, ?_⟩) ?_ ?_
 rotate_left
 ·intro w'
  go_simp
  with_reducible rfl
 rotate_left
 ·simp only [Act.put, List.setIfInBounds_toArray, List.set_cons_zero, List.set_cons_succ, i64_w, i32_w]
  rfl
 refine done_ (by kernel_rfl) ?_
 have yy0 := (blk_cell Q8.out 0).trans rfl
 have yy1 := (blk_cell Q8.out 1).trans rfl
 have yy2 := (blk_cell Q8.out 2).trans rfl
 have yy3 := (blk_cell Q8.out 3).trans rfl
 go_wp2
 go_quiet (fail)
 have F8d := Aside0.mk (blk_drewN F8.out nq)
 have R8d := Aside0.mk (blk_drewN R8.out nq)
 have D8d := Aside0.mk (gdrewN D8.out nq)
 have B8d := Aside0.mk (pw_below_drewN B8.out nq)
 generalize w8.drewN nq = w8' at *
 clear yy0 yy1 yy2 yy3
 go_wp2_with (first | (go_at_call 97; with_reducible refine (Dec_sub (n := n) (m := ar) (l := subN b at0 n) (rs := rs) HDEC2.out ?h1 HLN.out HN8.out HNL.out HAR.out).mono ?_; (case h1 => exact Kd.C_below C4.out B8d.out); rintro e w9 ⟨v, rfl, hR, hb⟩; obtain ⟨Ar, crr, rfl, hcr, hCr⟩ := Kd.R_reads hR; have R9 := Aside0.mk (blk_below R8d.out hb); have F9 := Aside0.mk (blk_below F8d.out hb); have D9 := Aside0.mk (grown_step D8d.out hb); have C9 := Aside0.mk hCr; have C9c := Aside0.mk hcr; clear hR hb hcr hCr) | (go_at_call 24; with_reducible refine (Plane_own (zs := zs) (rs.length + 2) C9.out C9c.out HPF.out).mono ?_; rintro e w10 ⟨v2, rfl, hR, hb⟩; obtain ⟨Az, cz, rfl⟩ := Kd.R_slice hR; have R10 := Aside0.mk (blk_below R9.out hb); have F10 := Aside0.mk (blk_below F9.out hb); have V10 := Aside0.mk (Kd.R_lower hR D9.out.size); have D10 := Aside0.mk (grown_step D9.out hb); clear hR hb; have o0 := (blk_cell R10.out 0).trans rfl; have o1 := (blk_cell R10.out 1).trans rfl; have o2 := (blk_cell R10.out 2).trans rfl; have fo0 := blk_frozen R10.out 0; have fo1 := blk_frozen R10.out 1; have fo2 := blk_frozen R10.out 2))
 obtain ⟨wz, hwz⟩ : ∃ wz, wz = ((w10.setCell ⟨gR, 0, none⟩ (.int .i64 (dw : Int))).setCell ⟨gR, 1, none⟩ (.int .i64 (dh : Int))).setCell ⟨gR, 2, none⟩ (.slice Az zs.length cz) := ⟨_, rfl⟩
 rw [← hwz]
 obtain ⟨hGz, hstz, hblz⟩ := put3 R10.out hwz
 refine bodyPost_ret (results_ct rfl _ _ gR 31 #[.int .i64 (dw : Int), .int .i64 (dh : Int), .slice Az zs.length cz] (0, 0) _ rfl hGz Try.underlying31 rfl (by kernel_rfl)) rfl ?_
 refine ⟨.slice Az zs.length cz, ?_, Kd.R_mono (Kd.R_move (Kd.R_types V10.out R10.out (by decide)) (fun k hk => hstz k hk.2)) (fun _ _ => trivial), ?_, ?_⟩
 ·rfl
 ·have hbz := hblz w.heap.size GR.out
  exact ⟨hbz.os.trans D10.out.os, hbz.tape.trans D10.out.tape, hbz.output.trans D10.out.output, Nat.le_trans D10.out.size hbz.size, fun k hk hne => (hbz.block k hk).trans (D10.out.block k hk hne)⟩
 ·have h := (hstz gf (blk_ne F10.out R10.out (by decide))).trans F10.out
  rw [HA2.out, HA1.out] at h
  exact h
end Go.Proofs.Ytbbebhdcfopmmaa.A
end
section
set_option linter.unusedVariables false
set_option linter.unusedSimpArgs false
namespace Go.Proofs.Ytbbebhdcfopmmaa.A
open Go.RowKit Go.Proofs.YtbbebhdcfopmmaaW.PrintWords Go.Proofs.YtbbebhdcfopmmaaW.PrintLast Go.Proofs.YtbbebhdcfopmmaaW.PrintMore Go.Proofs.Ytbbebhdcfopmmaa.PCodecNames

theorem Dec_sube {n m kd : Nat} {A : Option Addr} {l : List Nat} {w : World} (hd : dec l m = .err kd) (hC : (nat .u8).C w A n l) (hn : l.length = n) (h8 : ∀ i, gt l i < 256) (hl : n < 1152921504606846976) (hm : m ≤ 65536) :
    Calls Try.prog 97 #[.slice A n n, .int .i64 (m : Int)] w fun e w' => e = .returned (.tuple #[.slice none 0 0, .int .i64 (kd : Int)]) ∧ Below w.heap.size w w' := by
 subst hn
 exact Decode_err A l.length l m w kd hd hC (Nat.le_refl _) hl h8 hm

set_option maxHeartbeats 8000000 in
set_option maxRecDepth 100000 in
theorem part_sum (gf gT i n at0 dw dh cap cv x0 y0 x1 y1 sp pl W H S : Nat) (ad av : Addr) (idx b : List Nat) (w0 w : World) (hF : w.heap[gf]? = some (.cells #[.int .i64 (sp : Int), .int .i64 (pl : Int), .int .i64 (W : Int), .int .i64 (H : Int), .int .i64 (S : Int), .pointer (some ⟨gT, 0, none⟩), .slice (some av) idx.length cv, .slice (some ad) b.length cap, .int .i64 (at0 : Int)] 121 (0, 0))) (hT : TB w gT) (hC : (nat .u8).C w0 (some ad) b.length b) (hB : Below w0.heap.size w0 w) (hgf : w0.heap.size ≤ gf) (hI : w.cell? (av.add i) = some (.int .i64 (n : Int))) (hib : (av.add i).block ≠ gf) (hi : i < idx.length)
    (hcap : b.length ≤ cap) (h8 : ∀ i, gt b i < 256) (hl : b.length ≤ 4194304) (hn : at0 + n + 4 ≤ b.length) (hx : x1 = x0 + dw) (hy : y1 = y0 + dh) (hx2 : x1 ≤ 1048576) (hy2 : y1 ≤ 1048576) (hcrc : numL 0 (subN b (at0 + n) 4) ≠ crc (subN b at0 n)) :
    Calls Try.prog 77 #[.pointer (some ⟨gf, 0, none⟩), .int .i64 (i : Int), .agg #[.int .i64 (x0 : Int), .int .i64 (y0 : Int), .int .i64 (x1 : Int), .int .i64 (y1 : Int)]] w fun e w1 => e = .returned (.tuple #[.agg #[.int .i64 0, .int .i64 0, .slice none 0 0], .int .i64 183]) ∧ w.grownBy w1 (some gf) := by
 have hu121 := Try.underlying121
 have hu119 := Try.underlying119
 have hu73 := Try.underlying73
 have hu31 := Try.underlying31
 obtain ⟨at1, hat1⟩ : ∃ a, a = at0 + n := ⟨_, rfl⟩
 have HA1 := Aside0.mk hat1
 have HAT : Aside0 (at0 ≤ b.length) := ⟨by omega⟩
 have HN1 : Aside0 (at0 + n ≤ b.length) := ⟨by omega⟩
 have HN2 : Aside0 (at1 + 4 ≤ b.length) := ⟨by omega⟩
 have HL2 : Aside0 (b.length < 4611686018427387904) := ⟨by omega⟩
 have HL3 := Aside0.mk hl
 have HC := Aside0.mk hC
 have HCAP := Aside0.mk hcap
 have H8 := Aside0.mk h8
 have HIB := Aside0.mk hib
 have HF0 := Aside0.mk hF
 have HT0 := Aside0.mk hT
 have HI0 := Aside0.mk hI
 have HCRC := Aside0.mk hcrc
 have HB0 := Aside0.mk hB
 have HGF := Aside0.mk hgf
 have i1 : ((i : Int) < (idx.length : Int)) = True := eq_true (by omega)
 have i2 : (i < idx.length) = True := eq_true hi
 have a1 : (x1 : Int) - (x0 : Int) = (dw : Int) := by omega
 have a2 : (y1 : Int) - (y0 : Int) = (dh : Int) := by omega
 have a3 : dw < 4611686018427387904 := by omega
 have a4 : dh < 4611686018427387904 := by omega
 clear hF hT hC hB hgf hI hib hi hcap h8 hl hn hx hy hx2 hy2 hcrc hat1
 have e1 := wrapI a1 a3
 have e2 := wrapI a2 a4
 clear a1 a2 a3 a4
 go_enter Try.func77, Try.ntmps77
 go_wp2_with (first | ((with_reducible refine gate_dst (N := 5) rfl ?_); refine box_event ?hg (N := 5) ?hd (cs := #[.int .i64 (x0 : Int), .int .i64 (y0 : Int), .int .i64 (x1 : Int), .int .i64 (y1 : Int)]) (t := 73) ?hr ?_; (case hd => rfl); (case hg => rfl); (case hr => first | (go_simp; done) | (go_simp; rfl)); intro gq hg_ w1 hm_ hb_; have Q1 := Aside0.mk (hm_); have F1 := Aside0.mk (blk_below HF0.out hb_); have T1 := Aside0.mk (HT0.out.below hb_); have D1 := Aside0.mk (show w.grownBy w1 (some gf) from grown_step (World.grownBy.refl w _) hb_); have I1 := Aside0.mk ((hb_.cell (World.block_lt_of_cell? w _ HI0.out)).trans HI0.out); have GQ := Aside0.mk (show w.heap.size ≤ gq by rw [hg_]; exact Nat.le_refl _); clear hm_ hb_ hg_) | ((with_reducible refine gate_dst (N := 6) rfl ?_); refine box_event ?hg (N := 6) ?hd (cs := #[.int .i64 0, .int .i64 0, .slice none 0 0]) (t := 31) ?hr ?_; (case hd => rfl); (case hg => rfl); (case hr => first | (go_simp; done) | (go_simp; rfl)); intro gR hg_ w2 hm_ hb_; have R2 := Aside0.mk (hm_); have Q2 := Aside0.mk (blk_below Q1.out hb_); have F2 := Aside0.mk (blk_below F1.out hb_); have T2 := Aside0.mk (T1.out.below hb_); have D2 := Aside0.mk (grown_step D1.out hb_); have I2 := Aside0.mk ((hb_.cell (World.block_lt_of_cell? w1 _ I1.out)).trans I1.out); have GR := Aside0.mk (show w.heap.size ≤ gR by rw [hg_]; exact D1.out.size); clear hm_ hb_ hg_))
 have F3 := Aside0.mk (blk_drew F2.out); have Q3 := Aside0.mk (blk_drew Q2.out); have R3 := Aside0.mk (blk_drew R2.out); have T3 := Aside0.mk (T2.out.below (below_drew1 (Below.refl _ w2)))
 have D3 : Aside0 (w.grownBy w2.drew (some gf)) := ⟨grown_step D2.out (below_drew1 (Below.refl _ _))⟩
 have I3 : Aside0 (w2.drew.cell? (av.add i) = some (.int .i64 (n : Int))) := ⟨I2.out⟩
 clear F2 Q2 R2 T2 D2 I2 F1 Q1 T1 D1 I1
 refine start_ (n := 16) (S := fun w' => w'.cell? ⟨gf, 6, none⟩ = some (.slice (some av) idx.length cv) ∧ w'.cell? (av.add i) = some (.int .i64 (n : Int))) (ds := []) #[ff_,ff_,ff_,ff_,ff_,ff_,ff_,ff_,ff_,ff_,ff_,ff_,ff_,ff_,ff_,ff_] (by kernel_rfl) rfl rfl ⟨(blk_cell F3.out 6).trans rfl, I3.out⟩ (fun hHeld => ?_)
 generalize w2.drew = wd at *
 refine pure_ (i := 0) (N := some 17) (v := ?_) (a' := ?_) #[tt_,ff_,ff_,ff_,ff_,ff_,ff_,ff_,ff_,ff_,ff_,ff_,ff_,ff_,ff_,ff_] rfl rfl (by kernel_rfl) (fun _ _ _ h => h) (Or.inl ⟨by rfl, ?_⟩) ?_ ?_
 rotate_left
 ·intro w'
  go_simp
  with_reducible rfl
 rotate_left
 ·simp only [Act.put, List.setIfInBounds_toArray, List.set_cons_zero, List.set_cons_succ, i64_w, i32_w]
  rfl
 refine pure_ (i := 1) (N := some 18) (v := ?_) (a' := ?_) #[tt_,tt_,ff_,ff_,ff_,ff_,ff_,ff_,ff_,ff_,ff_,ff_,ff_,ff_,ff_,ff_] rfl rfl (by kernel_rfl) (fun _ _ _ h => h) (Or.inl ⟨by rfl, ?_⟩) ?_ ?_
 rotate_left
 ·intro w'
  go_simp
  with_reducible rfl
 rotate_left
 ·simp only [Act.put, List.setIfInBounds_toArray, List.set_cons_zero, List.set_cons_succ, i64_w, i32_w]
  rfl
 refine pure_ (i := 2) (N := some 19) (v := ?_) (a' := ?_) #[tt_,tt_,tt_,ff_,ff_,ff_,ff_,ff_,ff_,ff_,ff_,ff_,ff_,ff_,ff_,ff_] rfl rfl (by kernel_rfl) (fun _ _ _ h => h) (Or.inl ⟨by rfl, ?_⟩) ?_ ?_
 rotate_left
 ·intro w'
  go_simp
  with_reducible rfl
 rotate_left
 ·simp only [Act.put, List.setIfInBounds_toArray, List.set_cons_zero, List.set_cons_succ, i64_w, i32_w]
  rfl
 refine pure_ (i := 3) (N := some 20) (v := ?_) (a' := ?_) #[tt_,tt_,tt_,tt_,ff_,ff_,ff_,ff_,ff_,ff_,ff_,ff_,ff_,ff_,ff_,ff_] rfl rfl (by kernel_rfl) (fun _ _ _ h => h) (Or.inl ⟨by rfl, ?_⟩) ?_ ?_
 rotate_left
 ·intro w'
  go_simp
  with_reducible rfl
 rotate_left
 ·simp only [Act.put, List.setIfInBounds_toArray, List.set_cons_zero, List.set_cons_succ, i64_w, i32_w]
  rfl
 refine pure_ (i := 4) (N := some 21) (v := ?_) (a' := ?_) #[tt_,tt_,tt_,tt_,tt_,ff_,ff_,ff_,ff_,ff_,ff_,ff_,ff_,ff_,ff_,ff_] rfl rfl (by kernel_rfl) (fun _ _ _ h => h) (Or.inl ⟨by rfl, ?_⟩) ?_ ?_
 rotate_left
 ·intro w'
  go_simp
  with_reducible rfl
 rotate_left
 ·simp only [Act.put, List.setIfInBounds_toArray, List.set_cons_zero, List.set_cons_succ, i64_w, i32_w]
  rfl
 refine pure_ (i := 5) (N := some 22) (v := ?_) (a' := ?_) #[tt_,tt_,tt_,tt_,tt_,tt_,ff_,ff_,ff_,ff_,ff_,ff_,ff_,ff_,ff_,ff_] rfl rfl (by kernel_rfl) (fun _ _ _ h => h) (Or.inl ⟨by rfl, ?_⟩) ?_ ?_
 rotate_left
 ·intro w'
  go_simp
  with_reducible rfl
 rotate_left
 ·simp only [Act.put, List.setIfInBounds_toArray, List.set_cons_zero, List.set_cons_succ, i64_w, i32_w]
  rfl
 refine pure_ (i := 7) (N := some 24) (v := ?_) (a' := ?_) #[tt_,tt_,tt_,tt_,tt_,tt_,ff_,tt_,ff_,ff_,ff_,ff_,ff_,ff_,ff_,ff_] rfl rfl (by kernel_rfl) (fun _ _ _ h => h) (Or.inl ⟨by rfl, ?_⟩) ?_ ?_
 rotate_left
 ·intro w'
  go_simp
  with_reducible rfl
 rotate_left
 ·simp only [Act.put, List.setIfInBounds_toArray, List.set_cons_zero, List.set_cons_succ, i64_w, i32_w]
  rfl
 refine take_ (i := 6) (N := some 23) (v := ?_) (a' := ?_) #[tt_,tt_,tt_,tt_,tt_,tt_,tt_,tt_,ff_,ff_,ff_,ff_,ff_,ff_,ff_,ff_] rfl rfl (by kernel_rfl) (fun _ _ _ h => h) (Or.inl ⟨by rfl, ?_⟩) hHeld ?_ ?_
 rotate_left
 ·rintro w' ⟨s0, s1⟩
  go_simp
  with_reducible rfl
 rotate_left
 ·simp only [Act.put, List.setIfInBounds_toArray, List.set_cons_zero, List.set_cons_succ, i64_w, i32_w]
  rfl
 refine pure_ (i := 8) (N := some 25) (v := ?_) (a' := ?_) #[tt_,tt_,tt_,tt_,tt_,tt_,tt_,tt_,tt_,ff_,ff_,ff_,ff_,ff_,ff_,ff_] rfl rfl (by kernel_rfl) (fun _ _ _ h => h) (Or.inl ⟨by rfl, ?_⟩) ?_ ?_
 rotate_left
 ·intro w'
  go_simp
  with_reducible rfl
 rotate_left
 ·simp only [Act.put, List.setIfInBounds_toArray, List.set_cons_zero, List.set_cons_succ, i64_w, i32_w]
  rfl
 refine take_ (i := 9) (N := some 26) (v := ?_) (a' := ?_) #[tt_,tt_,tt_,tt_,tt_,tt_,tt_,tt_,tt_,tt_,ff_,ff_,ff_,ff_,ff_,ff_] rfl rfl (by kernel_rfl) (fun _ _ _ h => h) (Or.inl ⟨by rfl, ?_⟩) hHeld ?_ ?_
 rotate_left
 ·rintro w' ⟨s0, s1⟩
  go_simp
  with_reducible rfl
 rotate_left
 ·simp only [Act.put, List.setIfInBounds_toArray, List.set_cons_zero, List.set_cons_succ, i64_w, i32_w]
  rfl
 refine one_ (i := 10) (N := some 27) #[tt_,tt_,tt_,tt_,tt_,tt_,tt_,tt_,tt_,tt_,tt_,ff_,ff_,ff_,ff_,ff_] rfl rfl (by kernel_rfl) (by decide) (fun K hK => ?_)
 refine goes_ Try.func92 (by kernel_rfl) rfl #[.pointer (some ⟨gf, 7, none⟩), .int .i64 (n : Int)] (by rfl) rfl rfl (by (try simp only [List.map_toArray, List.map_cons, List.map_nil]); rfl) ?_
 refine (take_calls gf 7 n at0 cap ad b w0 _ HC.out ((blk_cell F3.out 7).trans rfl) ((blk_cell F3.out 8).trans rfl) (blk_frozen F3.out 8) HCAP.out HAT.out HL2.out HN1.out).mono ?_
 rintro e w4 ⟨A1, k4, rfl, hC4, hw4⟩
 refine ⟨_, rfl, ?_⟩
 have X4 := Aside0.mk (takeW F3.out hw4)
 have C4 := Aside0.mk hC4
 have Q4 := Aside0.mk ((X4.out.2.1 gq (blk_ne Q3.out F3.out (by decide))).trans Q3.out)
 have R4 := Aside0.mk ((X4.out.2.1 gR (blk_ne R3.out F3.out (by decide))).trans R3.out)
 have F4 : Aside0 (w4.heap[gf]? = some (.cells #[.int .i64 (sp : Int), .int .i64 (pl : Int), .int .i64 (W : Int), .int .i64 (H : Int), .int .i64 (S : Int), .pointer (some ⟨gT, 0, none⟩), .slice (some av) idx.length cv, .slice (some ad) b.length cap, .int .i64 (at1 : Int)] 121 (0, 0))) := ⟨by rw [HA1.out]; exact X4.out.1⟩
 have T4 : Aside0 (TB w4 gT) := ⟨by obtain ⟨ct, hct⟩ := T3.out.block; exact T3.out.move (X4.out.2.1 gT (blk_ne hct F3.out (by decide)))⟩
 have D4 : Aside0 (w.grownBy w4 (some gf)) := ⟨by rw [hw4]; exact gset (gdrewN D3.out _) 8 _⟩
 have I4 : Aside0 (w4.cell? (av.add i) = some (.int .i64 (n : Int))) := ⟨(World.cell?_of_block (X4.out.2.1 _ HIB.out)).trans I3.out⟩
 clear hC4 hw4
 refine hK.out _ _ ⟨(blk_cell F4.out 6).trans rfl, I4.out⟩ (fun hHeld => ?_)
 clear hK K
 refine norm_ (a' := ?_) ?_ ?_
 rotate_left
 ·show Act.put _ (some 27) _ = _
  simp only [Act.put, List.setIfInBounds_toArray, List.set_cons_zero, List.set_cons_succ, i64_w, i32_w]
  rfl
 refine pure_ (i := 11) (N := some 16) (v := ?_) (a' := ?_) #[tt_,tt_,tt_,tt_,tt_,tt_,tt_,tt_,tt_,tt_,tt_,tt_,ff_,ff_,ff_,ff_] rfl rfl (by kernel_rfl) (fun _ _ _ h => h) (Or.inl ⟨by rfl, ?_⟩) ?_ ?_
 rotate_left
 ·intro w'
  go_simp
  with_reducible rfl
 rotate_left
 ·simp only [Act.put, List.setIfInBounds_toArray, List.set_cons_zero, List.set_cons_succ, i64_w, i32_w]
  rfl
 refine pure_ (i := 12) (N := some 28) (v := ?_) (a' := ?_) #[tt_,tt_,tt_,tt_,tt_,tt_,tt_,tt_,tt_,tt_,tt_,tt_,tt_,ff_,ff_,ff_] rfl rfl (by kernel_rfl) (fun _ _ _ h => h) (Or.inl ⟨by rfl, ?_⟩) ?_ ?_
 rotate_left
 ·intro w'
  go_simp
  with_reducible rfl
 rotate_left
 ·simp only [Act.put, List.setIfInBounds_toArray, List.set_cons_zero, List.set_cons_succ, i64_w, i32_w]
  rfl
 refine pure_ (i := 13) (N := some 29) (v := ?_) (a' := ?_) #[tt_,tt_,tt_,tt_,tt_,tt_,tt_,tt_,tt_,tt_,tt_,tt_,tt_,tt_,ff_,ff_] rfl rfl (by kernel_rfl) (fun _ _ _ h => h) (Or.inl ⟨by rfl, ?_⟩) ?_ ?_
 rotate_left
 ·intro w'
  go_simp
  with_reducible rfl
 rotate_left
 ·simp only [Act.put, List.setIfInBounds_toArray, List.set_cons_zero, List.set_cons_succ, i64_w, i32_w]
  rfl
 refine pure_ (i := 14) (N := some 8) (v := ?_) (a' := ?_) #[tt_,tt_,tt_,tt_,tt_,tt_,tt_,tt_,tt_,tt_,tt_,tt_,tt_,tt_,tt_,ff_] rfl rfl (by kernel_rfl) (fun _ _ _ h => h) (Or.inl ⟨by rfl, ?_⟩) ?_ ?_
 rotate_left
 ·intro w'
  go_simp
  with_reducible rfl
 rotate_left
 ·simp only [Act.put, List.setIfInBounds_toArray, List.set_cons_zero, List.set_cons_succ, i64_w, i32_w]
  rfl
 refine pure_ (i := 15) (N := some 9) (v := ?_) (a' := ?_) #[tt_,tt_,tt_,tt_,tt_,tt_,tt_,tt_,tt_,tt_,tt_,tt_,tt_,tt_,tt_,tt_] rfl rfl (by kernel_rfl) (fun _ _ _ h => h) (Or.inl ⟨by rfl, ?_⟩) ?_ ?_
 rotate_left
 ·intro w'
  go_simp
  with_reducible rfl
 rotate_left
 ·simp only [Act.put, List.setIfInBounds_toArray, List.set_cons_zero, List.set_cons_succ, i64_w, i32_w]
  rfl
 refine done_ (by kernel_rfl) ?_
 have B4 : Aside0 (Below w0.heap.size w0 w4) := ⟨HB0.out.trans ⟨D4.out.os, D4.out.tape, D4.out.output, D4.out.size, fun k hk => D4.out.block k (Nat.lt_of_lt_of_le hk HB0.out.size) (by intro e; injection e with e; have := HGF.out; omega)⟩⟩
 have c7 : Aside0 (w4.cell? ⟨gf, 7, none⟩ = some (.slice (some ad) b.length cap)) := ⟨(blk_cell F4.out 7).trans rfl⟩
 have c8 : Aside0 (w4.cell? ⟨gf, 7 + 1, none⟩ = some (.int .i64 (at1 : Int))) := ⟨(blk_cell F4.out 8).trans rfl⟩
 go_wp2_with (go_at_call 92; with_reducible refine (take4 gf 7 at1 cap ad b w0 _ HC.out ?h1 ?h2 ?h3 HCAP.out HL2.out HN2.out).mono ?_; (case h1 => exact c7.out); (case h2 => exact c8.out); (case h3 => exact blk_frozen F4.out 8); rintro e w5 ⟨A2, k5, rfl, hC5, hw5⟩; have X5 := Aside0.mk (takeW F4.out hw5); have C5 := Aside0.mk hC5; have D5 : Aside0 (w.grownBy w5 (some gf)) := ⟨by rw [hw5]; exact gset (gdrewN D4.out _) _ _⟩; have Q5 := Aside0.mk ((X5.out.2.1 gq (blk_ne Q4.out F4.out (by decide))).trans Q4.out); have R5 := Aside0.mk ((X5.out.2.1 gR (blk_ne R4.out F4.out (by decide))).trans R4.out); clear hC5 hw5)
 obtain ⟨at2, hat2⟩ : ∃ a, a = at1 + 4 := ⟨_, rfl⟩
 have HA2 := Aside0.mk hat2
 have F5 : Aside0 (w5.heap[gf]? = some (.cells #[.int .i64 (sp : Int), .int .i64 (pl : Int), .int .i64 (W : Int), .int .i64 (H : Int), .int .i64 (S : Int), .pointer (some ⟨gT, 0, none⟩), .slice (some av) idx.length cv, .slice (some ad) b.length cap, .int .i64 (at2 : Int)] 121 (0, 0))) := ⟨by rw [hat2]; exact X5.out.1⟩
 have T5 : Aside0 (TB w5 gT) := ⟨by obtain ⟨ct, hct⟩ := T4.out.block; exact T4.out.move (X5.out.2.1 gT (blk_ne hct F4.out (by decide)))⟩
 have B5 : Aside0 (Below w0.heap.size w0 w5) := ⟨HB0.out.trans ⟨D5.out.os, D5.out.tape, D5.out.output, D5.out.size, fun k hk => D5.out.block k (Nat.lt_of_lt_of_le hk HB0.out.size) (by intro e; injection e with e; have := HGF.out; omega)⟩⟩
 have HL4 : Aside0 ((subN b at1 4).length = 4) := ⟨subN_length HN2.out⟩
 have HS8 : Aside0 (∀ i, gt (subN b at1 4) i < 256) := ⟨subN_lt H8.out⟩
 have HLN : Aside0 ((subN b at0 n).length = n) := ⟨subN_length HN1.out⟩
 have HN8 : Aside0 (∀ i, gt (subN b at0 n) i < 256) := ⟨subN_lt H8.out⟩
 have HNL : Aside0 (n < 1152921504606846976) := ⟨by have := HN1.out; have := HL3.out; omega⟩
 obtain ⟨cr, hcr⟩ : ∃ c, c = crc (subN b at0 n) := ⟨_, rfl⟩
 have HCR := Aside0.mk hcr
 obtain ⟨s4, hs4⟩ : ∃ x, x = numL 0 (subN b at1 4) := ⟨_, rfl⟩
 have HCRC2 : Aside0 (numL 0 (subN b at1 4) = s4) := ⟨hs4.symm⟩
 have hne : s4 ≠ cr := by rw [hs4, HA1.out, hcr]; exact HCRC.out
 have tsc : ((s4 : Int) != (cr : Int)) = true := by rw [bne_iff_ne]; omega
 have tsc2 : (s4 != cr) = true := by rw [bne_iff_ne]; exact hne
 clear hs4
 have hcr3 : cr < 4611686018427387904 := by have := crc_lt HN8.out; rw [← hcr] at this; omega
 have F6 := Aside0.mk (blk_drew F5.out); have Q6 := Aside0.mk (blk_drew Q5.out); have R6 := Aside0.mk (blk_drew R5.out); have T6 := Aside0.mk (T5.out.below (below_drew1 (Below.refl _ w5))); have D6 := Aside0.mk (grown_step D5.out (below_drew1 (Below.refl _ _))); have B6 := Aside0.mk (below_drew1 B5.out)
 clear hcr hat2
 have wcr := wrapI (rfl : (cr : Int) = (cr : Int)) hcr3
 clear hcr3 F5 Q5 R5 T5 D5 X5 c7 c8
 refine start_ (n := 10) (S := fun w' => w'.cell? ⟨gf, 5, none⟩ = some (.pointer (some ⟨gT, 0, none⟩))) (ds := []) #[ff_,ff_,ff_,ff_,ff_,ff_,ff_,ff_,ff_,ff_] (by kernel_rfl) rfl rfl ((blk_cell F6.out 5).trans rfl) (fun hHeld => ?_)
 generalize w5.drew = wd2 at *
 refine pure_ (i := 0) (N := some 44) (v := ?_) (a' := ?_) #[tt_,ff_,ff_,ff_,ff_,ff_,ff_,ff_,ff_,ff_] rfl rfl (by kernel_rfl) (fun _ _ _ h => h) (Or.inl ⟨by rfl, ?_⟩) ?_ ?_
 rotate_left
 ·intro w'
  go_simp
  with_reducible rfl
 rotate_left
 ·simp only [Act.put, List.setIfInBounds_toArray, List.set_cons_zero, List.set_cons_succ, i64_w, i32_w]
  rfl
 refine pure_ (i := 2) (N := some 46) (v := ?_) (a' := ?_) #[tt_,ff_,tt_,ff_,ff_,ff_,ff_,ff_,ff_,ff_] rfl rfl (by kernel_rfl) (fun _ _ _ h => h) (Or.inl ⟨by rfl, ?_⟩) ?_ ?_
 rotate_left
 ·intro w'
  go_simp
  with_reducible rfl
 rotate_left
 ·simp only [Act.put, List.setIfInBounds_toArray, List.set_cons_zero, List.set_cons_succ, i64_w, i32_w]
  rfl
 refine pure_ (i := 3) (N := some 47) (v := ?_) (a' := ?_) #[tt_,ff_,tt_,tt_,ff_,ff_,ff_,ff_,ff_,ff_] rfl rfl (by kernel_rfl) (fun _ _ _ h => h) (Or.inl ⟨by rfl, ?_⟩) ?_ ?_
 rotate_left
 ·intro w'
  go_simp
  with_reducible rfl
 rotate_left
 ·simp only [Act.put, List.setIfInBounds_toArray, List.set_cons_zero, List.set_cons_succ, i64_w, i32_w]
  rfl
 refine pure_ (i := 4) (N := some 48) (v := ?_) (a' := ?_) #[tt_,ff_,tt_,tt_,tt_,ff_,ff_,ff_,ff_,ff_] rfl rfl (by kernel_rfl) (fun _ _ _ h => h) (Or.inl ⟨by rfl, ?_⟩) ?_ ?_
 rotate_left
 ·intro w'
  go_simp
  with_reducible rfl
 rotate_left
 ·simp only [Act.put, List.setIfInBounds_toArray, List.set_cons_zero, List.set_cons_succ, i64_w, i32_w]
  rfl
 refine pure_ (i := 6) (N := some 50) (v := ?_) (a' := ?_) #[tt_,ff_,tt_,tt_,tt_,ff_,tt_,ff_,ff_,ff_] rfl rfl (by kernel_rfl) (fun _ _ _ h => h) (Or.inl ⟨by rfl, ?_⟩) ?_ ?_
 rotate_left
 ·intro w'
  go_simp
  with_reducible rfl
 rotate_left
 ·simp only [Act.put, List.setIfInBounds_toArray, List.set_cons_zero, List.set_cons_succ, i64_w, i32_w]
  rfl
 refine take_ (i := 5) (N := some 49) (v := ?_) (a' := ?_) #[tt_,ff_,tt_,tt_,tt_,tt_,tt_,ff_,ff_,ff_] rfl rfl (by kernel_rfl) (fun _ _ _ h => h) (Or.inl ⟨by rfl, ?_⟩) hHeld ?_ ?_
 rotate_left
 ·intro w' s0
  go_simp
  with_reducible rfl
 rotate_left
 ·simp only [Act.put, List.setIfInBounds_toArray, List.set_cons_zero, List.set_cons_succ, i64_w, i32_w]
  rfl
 refine one_ (i := 1) (N := some 45) #[tt_,tt_,tt_,tt_,tt_,tt_,tt_,ff_,ff_,ff_] rfl rfl (by kernel_rfl) (by decide) (fun K hK => ?_)
 refine goes_ Try.func94 (by kernel_rfl) rfl #[.slice A2 4 4] (by rfl) rfl rfl (by (try simp only [List.map_toArray, List.map_cons, List.map_nil]); rfl) ?_
 refine (number4 HL4.out (Kd.C_below C5.out B6.out) (Nat.le_refl 4) HS8.out).mono ?_
 rw [HCRC2.out]
 rintro e w7 ⟨rfl, hb⟩
 refine ⟨_, rfl, ?_⟩
 have F7 := Aside0.mk (blk_below F6.out hb)
 have Q7 := Aside0.mk (blk_below Q6.out hb)
 have R7 := Aside0.mk (blk_below R6.out hb)
 have T7 := Aside0.mk (T6.out.below hb)
 have D7 := Aside0.mk (grown_step D6.out hb)
 have B7 := Aside0.mk (below_step B6.out hb)
 clear hb
 refine hK.out _ _ ((blk_cell F7.out 5).trans rfl) (fun hHeld => ?_)
 clear hK K
 refine norm_ (a' := ?_) ?_ ?_
 rotate_left
 ·show Act.put _ (some 45) _ = _
  simp only [Act.put, List.setIfInBounds_toArray, List.set_cons_zero, List.set_cons_succ, i64_w, i32_w]
  rfl
 refine one_ (i := 7) (N := some 51) #[tt_,tt_,tt_,tt_,tt_,tt_,tt_,tt_,ff_,ff_] rfl rfl (by kernel_rfl) (by decide) (fun K hK => ?_)
 refine goes_ Try.func46 (by kernel_rfl) rfl #[.pointer (some ⟨gT, 0, none⟩), .slice A1 n n] (by rfl) rfl rfl (by (try simp only [List.map_toArray, List.map_cons, List.map_nil]); rfl) ?_
 refine (sum_sub T7.out (Kd.C_below C4.out B7.out) HLN.out HN8.out HNL.out).mono ?_
 rw [← HCR.out]
 rintro e w8 ⟨rfl, hb⟩
 refine ⟨_, rfl, ?_⟩
 have F8 := Aside0.mk (blk_below F7.out hb)
 have Q8 := Aside0.mk (blk_below Q7.out hb)
 have R8 := Aside0.mk (blk_below R7.out hb)
 have T8 := Aside0.mk (T7.out.below hb)
 have D8 := Aside0.mk (grown_step D7.out hb)
 have B8 := Aside0.mk (below_step B7.out hb)
 clear hb
 refine hK.out _ _ ((blk_cell F8.out 5).trans rfl) (fun hHeld => ?_)
 clear hK K
 refine norm_ (a' := ?_) ?_ ?_
 rotate_left
 ·show Act.put _ (some 51) _ = _
  simp only [Act.put, List.setIfInBounds_toArray, List.set_cons_zero, List.set_cons_succ, i64_w, i32_w]
  rfl
 refine pure_ (i := 8) (N := some 52) (v := ?_) (a' := ?_) #[tt_,tt_,tt_,tt_,tt_,tt_,tt_,tt_,tt_,ff_] rfl rfl (by kernel_rfl) (fun _ _ _ h => h) (Or.inl ⟨by rfl, ?_⟩) ?_ ?_
 rotate_left
 ·intro w'
  go_simp
  with_reducible rfl
 rotate_left
 ·simp only [Act.put, List.setIfInBounds_toArray, List.set_cons_zero, List.set_cons_succ, i64_w, i32_w]
  rfl
 refine pure_ (i := 9) (N := some 53) (v := ?_) (a' := ?_) #[tt_,tt_,tt_,tt_,tt_,tt_,tt_,tt_,tt_,tt_] rfl rfl (by kernel_rfl) (fun _ _ _ h => h) (Or.inl ⟨by rfl, ?_⟩) ?_ ?_
 rotate_left
 ·intro w'
  go_simp
  with_reducible rfl
 rotate_left
 ·simp only [Act.put, List.setIfInBounds_toArray, List.set_cons_zero, List.set_cons_succ, i64_w, i32_w]
  rfl
 refine done_ (by kernel_rfl) ?_
 have o0 := (blk_cell R8.out 0).trans rfl
 have o1 := (blk_cell R8.out 1).trans rfl
 have o2 := (blk_cell R8.out 2).trans rfl
 have fo0 := blk_frozen R8.out 0
 have fo1 := blk_frozen R8.out 1
 have fo2 := blk_frozen R8.out 2
 go_wp2
 obtain ⟨wz, hwz⟩ : ∃ wz, wz = ((w8.setCell ⟨gR, 0, none⟩ (.int .i64 0)).setCell ⟨gR, 1, none⟩ (.int .i64 0)).setCell ⟨gR, 2, none⟩ (.slice none 0 0) := ⟨_, rfl⟩
 rw [← hwz]
 obtain ⟨hGz, hstz, hblz⟩ := put3 R8.out hwz
 refine bodyPost_ret (results_ct rfl _ _ gR 31 #[.int .i64 0, .int .i64 0, .slice none 0 0] (0, 0) _ rfl hGz Try.underlying31 rfl (by kernel_rfl)) rfl ?_
 refine ⟨?_, ?_⟩
 ·rfl
 ·have hbz := hblz w.heap.size GR.out
  exact ⟨hbz.os.trans D8.out.os, hbz.tape.trans D8.out.tape, hbz.output.trans D8.out.output, Nat.le_trans D8.out.size hbz.size, fun k hk hne => (hbz.block k hk).trans (D8.out.block k hk hne)⟩

set_option maxHeartbeats 8000000 in
set_option maxRecDepth 100000 in
theorem part_form (gf gT i n at0 dw dh cap cv x0 y0 x1 y1 sp pl W H S : Nat) (ad av : Addr) (idx b : List Nat) (w0 w : World) (hF : w.heap[gf]? = some (.cells #[.int .i64 (sp : Int), .int .i64 (pl : Int), .int .i64 (W : Int), .int .i64 (H : Int), .int .i64 (S : Int), .pointer (some ⟨gT, 0, none⟩), .slice (some av) idx.length cv, .slice (some ad) b.length cap, .int .i64 (at0 : Int)] 121 (0, 0))) (hT : TB w gT) (hC : (nat .u8).C w0 (some ad) b.length b) (hB : Below w0.heap.size w0 w) (hgf : w0.heap.size ≤ gf) (hI : w.cell? (av.add i) = some (.int .i64 (n : Int))) (hib : (av.add i).block ≠ gf) (hi : i < idx.length)
    (hcap : b.length ≤ cap) (h8 : ∀ i, gt b i < 256) (hl : b.length ≤ 4194304) (hn : at0 + n + 4 ≤ b.length) (hx : x1 = x0 + dw) (hy : y1 = y0 + dh) (hx2 : x1 ≤ 1048576) (hy2 : y1 ≤ 1048576) (hp : dw * dh ≤ 65536) (kd : Nat) (hk0 : kd ≠ 0) (hcrc : numL 0 (subN b (at0 + n) 4) = crc (subN b at0 n)) (hdec : dec (subN b at0 n) (dw * dh) = .err kd) :
    Calls Try.prog 77 #[.pointer (some ⟨gf, 0, none⟩), .int .i64 (i : Int), .agg #[.int .i64 (x0 : Int), .int .i64 (y0 : Int), .int .i64 (x1 : Int), .int .i64 (y1 : Int)]] w fun e w1 => e = .returned (.tuple #[.agg #[.int .i64 0, .int .i64 0, .slice none 0 0], .int .i64 181]) ∧ w.grownBy w1 (some gf) := by
 have hu121 := Try.underlying121
 have hu119 := Try.underlying119
 have hu73 := Try.underlying73
 have hu31 := Try.underlying31
 obtain ⟨at1, hat1⟩ : ∃ a, a = at0 + n := ⟨_, rfl⟩
 have HA1 := Aside0.mk hat1
 have HAT : Aside0 (at0 ≤ b.length) := ⟨by omega⟩
 have HN1 : Aside0 (at0 + n ≤ b.length) := ⟨by omega⟩
 have HN2 : Aside0 (at1 + 4 ≤ b.length) := ⟨by omega⟩
 have HL2 : Aside0 (b.length < 4611686018427387904) := ⟨by omega⟩
 have HL3 := Aside0.mk hl
 have HC := Aside0.mk hC
 have HCAP := Aside0.mk hcap
 have H8 := Aside0.mk h8
 have HIB := Aside0.mk hib
 have HF0 := Aside0.mk hF
 have HT0 := Aside0.mk hT
 have HI0 := Aside0.mk hI
 have HCRC := Aside0.mk hcrc
 have HDEC := Aside0.mk hdec
 have HB0 := Aside0.mk hB
 have HGF := Aside0.mk hgf
 obtain ⟨ar, har⟩ : ∃ a, a = dw * dh := ⟨_, rfl⟩
 have HAR : Aside0 (ar ≤ 65536) := ⟨by rw [har]; exact hp⟩
 have HDEC2 : Aside0 (dec (subN b at0 n) ar = .err kd) := ⟨by rw [har]; exact hdec⟩
 have a5 : (dw : Int) * (dh : Int) = (ar : Int) := by rw [har]; exact (Int.natCast_mul _ _).symm
 have a6 : ar < 4611686018427387904 := by have := HAR.out; omega
 have tk : ((kd : Int) != 0) = true := by rw [bne_iff_ne]; omega
 have tk2 : (kd != 0) = true := by rw [bne_iff_ne]; exact hk0
 clear hk0
 have i1 : ((i : Int) < (idx.length : Int)) = True := eq_true (by omega)
 have i2 : (i < idx.length) = True := eq_true hi
 have a1 : (x1 : Int) - (x0 : Int) = (dw : Int) := by omega
 have a2 : (y1 : Int) - (y0 : Int) = (dh : Int) := by omega
 have a3 : dw < 4611686018427387904 := by omega
 have a4 : dh < 4611686018427387904 := by omega
 clear hF hT hC hB hgf hI hib hi hcap h8 hl hn hx hy hx2 hy2 hp hcrc hdec hat1
 have e1 := wrapI a1 a3
 have e2 := wrapI a2 a4
 have e3 := wrapI a5 a6
 clear a1 a2 a3 a4 a5 a6 har
 go_enter Try.func77, Try.ntmps77
 go_wp2_with (first | ((with_reducible refine gate_dst (N := 5) rfl ?_); refine box_event ?hg (N := 5) ?hd (cs := #[.int .i64 (x0 : Int), .int .i64 (y0 : Int), .int .i64 (x1 : Int), .int .i64 (y1 : Int)]) (t := 73) ?hr ?_; (case hd => rfl); (case hg => rfl); (case hr => first | (go_simp; done) | (go_simp; rfl)); intro gq hg_ w1 hm_ hb_; have Q1 := Aside0.mk (hm_); have F1 := Aside0.mk (blk_below HF0.out hb_); have T1 := Aside0.mk (HT0.out.below hb_); have D1 := Aside0.mk (show w.grownBy w1 (some gf) from grown_step (World.grownBy.refl w _) hb_); have I1 := Aside0.mk ((hb_.cell (World.block_lt_of_cell? w _ HI0.out)).trans HI0.out); have GQ := Aside0.mk (show w.heap.size ≤ gq by rw [hg_]; exact Nat.le_refl _); clear hm_ hb_ hg_) | ((with_reducible refine gate_dst (N := 6) rfl ?_); refine box_event ?hg (N := 6) ?hd (cs := #[.int .i64 0, .int .i64 0, .slice none 0 0]) (t := 31) ?hr ?_; (case hd => rfl); (case hg => rfl); (case hr => first | (go_simp; done) | (go_simp; rfl)); intro gR hg_ w2 hm_ hb_; have R2 := Aside0.mk (hm_); have Q2 := Aside0.mk (blk_below Q1.out hb_); have F2 := Aside0.mk (blk_below F1.out hb_); have T2 := Aside0.mk (T1.out.below hb_); have D2 := Aside0.mk (grown_step D1.out hb_); have I2 := Aside0.mk ((hb_.cell (World.block_lt_of_cell? w1 _ I1.out)).trans I1.out); have GR := Aside0.mk (show w.heap.size ≤ gR by rw [hg_]; exact D1.out.size); clear hm_ hb_ hg_))
 have F3 := Aside0.mk (blk_drew F2.out); have Q3 := Aside0.mk (blk_drew Q2.out); have R3 := Aside0.mk (blk_drew R2.out); have T3 := Aside0.mk (T2.out.below (below_drew1 (Below.refl _ w2)))
 have D3 : Aside0 (w.grownBy w2.drew (some gf)) := ⟨grown_step D2.out (below_drew1 (Below.refl _ _))⟩
 have I3 : Aside0 (w2.drew.cell? (av.add i) = some (.int .i64 (n : Int))) := ⟨I2.out⟩
 clear F2 Q2 R2 T2 D2 I2 F1 Q1 T1 D1 I1
 refine start_ (n := 16) (S := fun w' => w'.cell? ⟨gf, 6, none⟩ = some (.slice (some av) idx.length cv) ∧ w'.cell? (av.add i) = some (.int .i64 (n : Int))) (ds := []) #[ff_,ff_,ff_,ff_,ff_,ff_,ff_,ff_,ff_,ff_,ff_,ff_,ff_,ff_,ff_,ff_] (by kernel_rfl) rfl rfl ⟨(blk_cell F3.out 6).trans rfl, I3.out⟩ (fun hHeld => ?_)
 generalize w2.drew = wd at *
 refine pure_ (i := 0) (N := some 17) (v := ?_) (a' := ?_) #[tt_,ff_,ff_,ff_,ff_,ff_,ff_,ff_,ff_,ff_,ff_,ff_,ff_,ff_,ff_,ff_] rfl rfl (by kernel_rfl) (fun _ _ _ h => h) (Or.inl ⟨by rfl, ?_⟩) ?_ ?_
 rotate_left
 ·intro w'
  go_simp
  with_reducible rfl
 rotate_left
 ·simp only [Act.put, List.setIfInBounds_toArray, List.set_cons_zero, List.set_cons_succ, i64_w, i32_w]
  rfl
 refine pure_ (i := 1) (N := some 18) (v := ?_) (a' := ?_) #[tt_,tt_,ff_,ff_,ff_,ff_,ff_,ff_,ff_,ff_,ff_,ff_,ff_,ff_,ff_,ff_] rfl rfl (by kernel_rfl) (fun _ _ _ h => h) (Or.inl ⟨by rfl, ?_⟩) ?_ ?_
 rotate_left
 ·intro w'
  go_simp
  with_reducible rfl
 rotate_left
 ·simp only [Act.put, List.setIfInBounds_toArray, List.set_cons_zero, List.set_cons_succ, i64_w, i32_w]
  rfl
 refine pure_ (i := 2) (N := some 19) (v := ?_) (a' := ?_) #[tt_,tt_,tt_,ff_,ff_,ff_,ff_,ff_,ff_,ff_,ff_,ff_,ff_,ff_,ff_,ff_] rfl rfl (by kernel_rfl) (fun _ _ _ h => h) (Or.inl ⟨by rfl, ?_⟩) ?_ ?_
 rotate_left
 ·intro w'
  go_simp
  with_reducible rfl
 rotate_left
 ·simp only [Act.put, List.setIfInBounds_toArray, List.set_cons_zero, List.set_cons_succ, i64_w, i32_w]
  rfl
 refine pure_ (i := 3) (N := some 20) (v := ?_) (a' := ?_) #[tt_,tt_,tt_,tt_,ff_,ff_,ff_,ff_,ff_,ff_,ff_,ff_,ff_,ff_,ff_,ff_] rfl rfl (by kernel_rfl) (fun _ _ _ h => h) (Or.inl ⟨by rfl, ?_⟩) ?_ ?_
 rotate_left
 ·intro w'
  go_simp
  with_reducible rfl
 rotate_left
 ·simp only [Act.put, List.setIfInBounds_toArray, List.set_cons_zero, List.set_cons_succ, i64_w, i32_w]
  rfl
 refine pure_ (i := 4) (N := some 21) (v := ?_) (a' := ?_) #[tt_,tt_,tt_,tt_,tt_,ff_,ff_,ff_,ff_,ff_,ff_,ff_,ff_,ff_,ff_,ff_] rfl rfl (by kernel_rfl) (fun _ _ _ h => h) (Or.inl ⟨by rfl, ?_⟩) ?_ ?_
 rotate_left
 ·intro w'
  go_simp
  with_reducible rfl
 rotate_left
 ·simp only [Act.put, List.setIfInBounds_toArray, List.set_cons_zero, List.set_cons_succ, i64_w, i32_w]
  rfl
 refine pure_ (i := 5) (N := some 22) (v := ?_) (a' := ?_) #[tt_,tt_,tt_,tt_,tt_,tt_,ff_,ff_,ff_,ff_,ff_,ff_,ff_,ff_,ff_,ff_] rfl rfl (by kernel_rfl) (fun _ _ _ h => h) (Or.inl ⟨by rfl, ?_⟩) ?_ ?_
 rotate_left
 ·intro w'
  go_simp
  with_reducible rfl
 rotate_left
 ·simp only [Act.put, List.setIfInBounds_toArray, List.set_cons_zero, List.set_cons_succ, i64_w, i32_w]
  rfl
 refine pure_ (i := 7) (N := some 24) (v := ?_) (a' := ?_) #[tt_,tt_,tt_,tt_,tt_,tt_,ff_,tt_,ff_,ff_,ff_,ff_,ff_,ff_,ff_,ff_] rfl rfl (by kernel_rfl) (fun _ _ _ h => h) (Or.inl ⟨by rfl, ?_⟩) ?_ ?_
 rotate_left
 ·intro w'
  go_simp
  with_reducible rfl
 rotate_left
 ·simp only [Act.put, List.setIfInBounds_toArray, List.set_cons_zero, List.set_cons_succ, i64_w, i32_w]
  rfl
 refine take_ (i := 6) (N := some 23) (v := ?_) (a' := ?_) #[tt_,tt_,tt_,tt_,tt_,tt_,tt_,tt_,ff_,ff_,ff_,ff_,ff_,ff_,ff_,ff_] rfl rfl (by kernel_rfl) (fun _ _ _ h => h) (Or.inl ⟨by rfl, ?_⟩) hHeld ?_ ?_
 rotate_left
 ·rintro w' ⟨s0, s1⟩
  go_simp
  with_reducible rfl
 rotate_left
 ·simp only [Act.put, List.setIfInBounds_toArray, List.set_cons_zero, List.set_cons_succ, i64_w, i32_w]
  rfl
 refine pure_ (i := 8) (N := some 25) (v := ?_) (a' := ?_) #[tt_,tt_,tt_,tt_,tt_,tt_,tt_,tt_,tt_,ff_,ff_,ff_,ff_,ff_,ff_,ff_] rfl rfl (by kernel_rfl) (fun _ _ _ h => h) (Or.inl ⟨by rfl, ?_⟩) ?_ ?_
 rotate_left
 ·intro w'
  go_simp
  with_reducible rfl
 rotate_left
 ·simp only [Act.put, List.setIfInBounds_toArray, List.set_cons_zero, List.set_cons_succ, i64_w, i32_w]
  rfl
 refine take_ (i := 9) (N := some 26) (v := ?_) (a' := ?_) #[tt_,tt_,tt_,tt_,tt_,tt_,tt_,tt_,tt_,tt_,ff_,ff_,ff_,ff_,ff_,ff_] rfl rfl (by kernel_rfl) (fun _ _ _ h => h) (Or.inl ⟨by rfl, ?_⟩) hHeld ?_ ?_
 rotate_left
 ·rintro w' ⟨s0, s1⟩
  go_simp
  with_reducible rfl
 rotate_left
 ·simp only [Act.put, List.setIfInBounds_toArray, List.set_cons_zero, List.set_cons_succ, i64_w, i32_w]
  rfl
 refine one_ (i := 10) (N := some 27) #[tt_,tt_,tt_,tt_,tt_,tt_,tt_,tt_,tt_,tt_,tt_,ff_,ff_,ff_,ff_,ff_] rfl rfl (by kernel_rfl) (by decide) (fun K hK => ?_)
 refine goes_ Try.func92 (by kernel_rfl) rfl #[.pointer (some ⟨gf, 7, none⟩), .int .i64 (n : Int)] (by rfl) rfl rfl (by (try simp only [List.map_toArray, List.map_cons, List.map_nil]); rfl) ?_
 refine (take_calls gf 7 n at0 cap ad b w0 _ HC.out ((blk_cell F3.out 7).trans rfl) ((blk_cell F3.out 8).trans rfl) (blk_frozen F3.out 8) HCAP.out HAT.out HL2.out HN1.out).mono ?_
 rintro e w4 ⟨A1, k4, rfl, hC4, hw4⟩
 refine ⟨_, rfl, ?_⟩
 have X4 := Aside0.mk (takeW F3.out hw4)
 have C4 := Aside0.mk hC4
 have Q4 := Aside0.mk ((X4.out.2.1 gq (blk_ne Q3.out F3.out (by decide))).trans Q3.out)
 have R4 := Aside0.mk ((X4.out.2.1 gR (blk_ne R3.out F3.out (by decide))).trans R3.out)
 have F4 : Aside0 (w4.heap[gf]? = some (.cells #[.int .i64 (sp : Int), .int .i64 (pl : Int), .int .i64 (W : Int), .int .i64 (H : Int), .int .i64 (S : Int), .pointer (some ⟨gT, 0, none⟩), .slice (some av) idx.length cv, .slice (some ad) b.length cap, .int .i64 (at1 : Int)] 121 (0, 0))) := ⟨by rw [HA1.out]; exact X4.out.1⟩
 have T4 : Aside0 (TB w4 gT) := ⟨by obtain ⟨ct, hct⟩ := T3.out.block; exact T3.out.move (X4.out.2.1 gT (blk_ne hct F3.out (by decide)))⟩
 have D4 : Aside0 (w.grownBy w4 (some gf)) := ⟨by rw [hw4]; exact gset (gdrewN D3.out _) 8 _⟩
 have I4 : Aside0 (w4.cell? (av.add i) = some (.int .i64 (n : Int))) := ⟨(World.cell?_of_block (X4.out.2.1 _ HIB.out)).trans I3.out⟩
 clear hC4 hw4
 refine hK.out _ _ ⟨(blk_cell F4.out 6).trans rfl, I4.out⟩ (fun hHeld => ?_)
 clear hK K
 refine norm_ (a' := ?_) ?_ ?_
 rotate_left
 ·show Act.put _ (some 27) _ = _
  simp only [Act.put, List.setIfInBounds_toArray, List.set_cons_zero, List.set_cons_succ, i64_w, i32_w]
  rfl
 refine pure_ (i := 11) (N := some 16) (v := ?_) (a' := ?_) #[tt_,tt_,tt_,tt_,tt_,tt_,tt_,tt_,tt_,tt_,tt_,tt_,ff_,ff_,ff_,ff_] rfl rfl (by kernel_rfl) (fun _ _ _ h => h) (Or.inl ⟨by rfl, ?_⟩) ?_ ?_
 rotate_left
 ·intro w'
  go_simp
  with_reducible rfl
 rotate_left
 ·simp only [Act.put, List.setIfInBounds_toArray, List.set_cons_zero, List.set_cons_succ, i64_w, i32_w]
  rfl
 refine pure_ (i := 12) (N := some 28) (v := ?_) (a' := ?_) #[tt_,tt_,tt_,tt_,tt_,tt_,tt_,tt_,tt_,tt_,tt_,tt_,tt_,ff_,ff_,ff_] rfl rfl (by kernel_rfl) (fun _ _ _ h => h) (Or.inl ⟨by rfl, ?_⟩) ?_ ?_
 rotate_left
 ·intro w'
  go_simp
  with_reducible rfl
 rotate_left
 ·simp only [Act.put, List.setIfInBounds_toArray, List.set_cons_zero, List.set_cons_succ, i64_w, i32_w]
  rfl
 refine pure_ (i := 13) (N := some 29) (v := ?_) (a' := ?_) #[tt_,tt_,tt_,tt_,tt_,tt_,tt_,tt_,tt_,tt_,tt_,tt_,tt_,tt_,ff_,ff_] rfl rfl (by kernel_rfl) (fun _ _ _ h => h) (Or.inl ⟨by rfl, ?_⟩) ?_ ?_
 rotate_left
 ·intro w'
  go_simp
  with_reducible rfl
 rotate_left
 ·simp only [Act.put, List.setIfInBounds_toArray, List.set_cons_zero, List.set_cons_succ, i64_w, i32_w]
  rfl
 refine pure_ (i := 14) (N := some 8) (v := ?_) (a' := ?_) #[tt_,tt_,tt_,tt_,tt_,tt_,tt_,tt_,tt_,tt_,tt_,tt_,tt_,tt_,tt_,ff_] rfl rfl (by kernel_rfl) (fun _ _ _ h => h) (Or.inl ⟨by rfl, ?_⟩) ?_ ?_
 rotate_left
 ·intro w'
  go_simp
  with_reducible rfl
 rotate_left
 ·simp only [Act.put, List.setIfInBounds_toArray, List.set_cons_zero, List.set_cons_succ, i64_w, i32_w]
  rfl
 refine pure_ (i := 15) (N := some 9) (v := ?_) (a' := ?_) #[tt_,tt_,tt_,tt_,tt_,tt_,tt_,tt_,tt_,tt_,tt_,tt_,tt_,tt_,tt_,tt_] rfl rfl (by kernel_rfl) (fun _ _ _ h => h) (Or.inl ⟨by rfl, ?_⟩) ?_ ?_
 rotate_left
 ·intro w'
  go_simp
  with_reducible rfl
 rotate_left
 ·simp only [Act.put, List.setIfInBounds_toArray, List.set_cons_zero, List.set_cons_succ, i64_w, i32_w]
  rfl
 refine done_ (by kernel_rfl) ?_
 have B4 : Aside0 (Below w0.heap.size w0 w4) := ⟨HB0.out.trans ⟨D4.out.os, D4.out.tape, D4.out.output, D4.out.size, fun k hk => D4.out.block k (Nat.lt_of_lt_of_le hk HB0.out.size) (by intro e; injection e with e; have := HGF.out; omega)⟩⟩
 have c7 : Aside0 (w4.cell? ⟨gf, 7, none⟩ = some (.slice (some ad) b.length cap)) := ⟨(blk_cell F4.out 7).trans rfl⟩
 have c8 : Aside0 (w4.cell? ⟨gf, 7 + 1, none⟩ = some (.int .i64 (at1 : Int))) := ⟨(blk_cell F4.out 8).trans rfl⟩
 go_wp2_with (go_at_call 92; with_reducible refine (take4 gf 7 at1 cap ad b w0 _ HC.out ?h1 ?h2 ?h3 HCAP.out HL2.out HN2.out).mono ?_; (case h1 => exact c7.out); (case h2 => exact c8.out); (case h3 => exact blk_frozen F4.out 8); rintro e w5 ⟨A2, k5, rfl, hC5, hw5⟩; have X5 := Aside0.mk (takeW F4.out hw5); have C5 := Aside0.mk hC5; have D5 : Aside0 (w.grownBy w5 (some gf)) := ⟨by rw [hw5]; exact gset (gdrewN D4.out _) _ _⟩; have Q5 := Aside0.mk ((X5.out.2.1 gq (blk_ne Q4.out F4.out (by decide))).trans Q4.out); have R5 := Aside0.mk ((X5.out.2.1 gR (blk_ne R4.out F4.out (by decide))).trans R4.out); clear hC5 hw5)
 obtain ⟨at2, hat2⟩ : ∃ a, a = at1 + 4 := ⟨_, rfl⟩
 have HA2 := Aside0.mk hat2
 have F5 : Aside0 (w5.heap[gf]? = some (.cells #[.int .i64 (sp : Int), .int .i64 (pl : Int), .int .i64 (W : Int), .int .i64 (H : Int), .int .i64 (S : Int), .pointer (some ⟨gT, 0, none⟩), .slice (some av) idx.length cv, .slice (some ad) b.length cap, .int .i64 (at2 : Int)] 121 (0, 0))) := ⟨by rw [hat2]; exact X5.out.1⟩
 have T5 : Aside0 (TB w5 gT) := ⟨by obtain ⟨ct, hct⟩ := T4.out.block; exact T4.out.move (X5.out.2.1 gT (blk_ne hct F4.out (by decide)))⟩
 have B5 : Aside0 (Below w0.heap.size w0 w5) := ⟨HB0.out.trans ⟨D5.out.os, D5.out.tape, D5.out.output, D5.out.size, fun k hk => D5.out.block k (Nat.lt_of_lt_of_le hk HB0.out.size) (by intro e; injection e with e; have := HGF.out; omega)⟩⟩
 have HL4 : Aside0 ((subN b at1 4).length = 4) := ⟨subN_length HN2.out⟩
 have HS8 : Aside0 (∀ i, gt (subN b at1 4) i < 256) := ⟨subN_lt H8.out⟩
 have HLN : Aside0 ((subN b at0 n).length = n) := ⟨subN_length HN1.out⟩
 have HN8 : Aside0 (∀ i, gt (subN b at0 n) i < 256) := ⟨subN_lt H8.out⟩
 have HNL : Aside0 (n < 1152921504606846976) := ⟨by have := HN1.out; have := HL3.out; omega⟩
 obtain ⟨cr, hcr⟩ : ∃ c, c = crc (subN b at0 n) := ⟨_, rfl⟩
 have HCR := Aside0.mk hcr
 have HCRC2 : Aside0 (numL 0 (subN b at1 4) = cr) := ⟨by rw [HA1.out, hcr]; exact HCRC.out⟩
 have hcr3 : cr < 4611686018427387904 := by have := crc_lt HN8.out; rw [← hcr] at this; omega
 have F6 := Aside0.mk (blk_drew F5.out); have Q6 := Aside0.mk (blk_drew Q5.out); have R6 := Aside0.mk (blk_drew R5.out); have T6 := Aside0.mk (T5.out.below (below_drew1 (Below.refl _ w5))); have D6 := Aside0.mk (grown_step D5.out (below_drew1 (Below.refl _ _))); have B6 := Aside0.mk (below_drew1 B5.out)
 clear hcr hat2
 have wcr := wrapI (rfl : (cr : Int) = (cr : Int)) hcr3
 clear hcr3 F5 Q5 R5 T5 D5 X5 c7 c8
 refine start_ (n := 10) (S := fun w' => w'.cell? ⟨gf, 5, none⟩ = some (.pointer (some ⟨gT, 0, none⟩))) (ds := []) #[ff_,ff_,ff_,ff_,ff_,ff_,ff_,ff_,ff_,ff_] (by kernel_rfl) rfl rfl ((blk_cell F6.out 5).trans rfl) (fun hHeld => ?_)
 generalize w5.drew = wd2 at *
 refine pure_ (i := 0) (N := some 44) (v := ?_) (a' := ?_) #[tt_,ff_,ff_,ff_,ff_,ff_,ff_,ff_,ff_,ff_] rfl rfl (by kernel_rfl) (fun _ _ _ h => h) (Or.inl ⟨by rfl, ?_⟩) ?_ ?_
 rotate_left
 ·intro w'
  go_simp
  with_reducible rfl
 rotate_left
 ·simp only [Act.put, List.setIfInBounds_toArray, List.set_cons_zero, List.set_cons_succ, i64_w, i32_w]
  rfl
 refine pure_ (i := 2) (N := some 46) (v := ?_) (a' := ?_) #[tt_,ff_,tt_,ff_,ff_,ff_,ff_,ff_,ff_,ff_] rfl rfl (by kernel_rfl) (fun _ _ _ h => h) (Or.inl ⟨by rfl, ?_⟩) ?_ ?_
 rotate_left
 ·intro w'
  go_simp
  with_reducible rfl
 rotate_left
 ·simp only [Act.put, List.setIfInBounds_toArray, List.set_cons_zero, List.set_cons_succ, i64_w, i32_w]
  rfl
 refine pure_ (i := 3) (N := some 47) (v := ?_) (a' := ?_) #[tt_,ff_,tt_,tt_,ff_,ff_,ff_,ff_,ff_,ff_] rfl rfl (by kernel_rfl) (fun _ _ _ h => h) (Or.inl ⟨by rfl, ?_⟩) ?_ ?_
 rotate_left
 ·intro w'
  go_simp
  with_reducible rfl
 rotate_left
 ·simp only [Act.put, List.setIfInBounds_toArray, List.set_cons_zero, List.set_cons_succ, i64_w, i32_w]
  rfl
 refine pure_ (i := 4) (N := some 48) (v := ?_) (a' := ?_) #[tt_,ff_,tt_,tt_,tt_,ff_,ff_,ff_,ff_,ff_] rfl rfl (by kernel_rfl) (fun _ _ _ h => h) (Or.inl ⟨by rfl, ?_⟩) ?_ ?_
 rotate_left
 ·intro w'
  go_simp
  with_reducible rfl
 rotate_left
 ·simp only [Act.put, List.setIfInBounds_toArray, List.set_cons_zero, List.set_cons_succ, i64_w, i32_w]
  rfl
 refine pure_ (i := 6) (N := some 50) (v := ?_) (a' := ?_) #[tt_,ff_,tt_,tt_,tt_,ff_,tt_,ff_,ff_,ff_] rfl rfl (by kernel_rfl) (fun _ _ _ h => h) (Or.inl ⟨by rfl, ?_⟩) ?_ ?_
 rotate_left
 ·intro w'
  go_simp
  with_reducible rfl
 rotate_left
 ·simp only [Act.put, List.setIfInBounds_toArray, List.set_cons_zero, List.set_cons_succ, i64_w, i32_w]
  rfl
 refine take_ (i := 5) (N := some 49) (v := ?_) (a' := ?_) #[tt_,ff_,tt_,tt_,tt_,tt_,tt_,ff_,ff_,ff_] rfl rfl (by kernel_rfl) (fun _ _ _ h => h) (Or.inl ⟨by rfl, ?_⟩) hHeld ?_ ?_
 rotate_left
 ·intro w' s0
  go_simp
  with_reducible rfl
 rotate_left
 ·simp only [Act.put, List.setIfInBounds_toArray, List.set_cons_zero, List.set_cons_succ, i64_w, i32_w]
  rfl
 refine one_ (i := 1) (N := some 45) #[tt_,tt_,tt_,tt_,tt_,tt_,tt_,ff_,ff_,ff_] rfl rfl (by kernel_rfl) (by decide) (fun K hK => ?_)
 refine goes_ Try.func94 (by kernel_rfl) rfl #[.slice A2 4 4] (by rfl) rfl rfl (by (try simp only [List.map_toArray, List.map_cons, List.map_nil]); rfl) ?_
 refine (number4 HL4.out (Kd.C_below C5.out B6.out) (Nat.le_refl 4) HS8.out).mono ?_
 rw [HCRC2.out]
 rintro e w7 ⟨rfl, hb⟩
 refine ⟨_, rfl, ?_⟩
 have F7 := Aside0.mk (blk_below F6.out hb)
 have Q7 := Aside0.mk (blk_below Q6.out hb)
 have R7 := Aside0.mk (blk_below R6.out hb)
 have T7 := Aside0.mk (T6.out.below hb)
 have D7 := Aside0.mk (grown_step D6.out hb)
 have B7 := Aside0.mk (below_step B6.out hb)
 clear hb
 refine hK.out _ _ ((blk_cell F7.out 5).trans rfl) (fun hHeld => ?_)
 clear hK K
 refine norm_ (a' := ?_) ?_ ?_
 rotate_left
 ·show Act.put _ (some 45) _ = _
  simp only [Act.put, List.setIfInBounds_toArray, List.set_cons_zero, List.set_cons_succ, i64_w, i32_w]
  rfl
 refine one_ (i := 7) (N := some 51) #[tt_,tt_,tt_,tt_,tt_,tt_,tt_,tt_,ff_,ff_] rfl rfl (by kernel_rfl) (by decide) (fun K hK => ?_)
 refine goes_ Try.func46 (by kernel_rfl) rfl #[.pointer (some ⟨gT, 0, none⟩), .slice A1 n n] (by rfl) rfl rfl (by (try simp only [List.map_toArray, List.map_cons, List.map_nil]); rfl) ?_
 refine (sum_sub T7.out (Kd.C_below C4.out B7.out) HLN.out HN8.out HNL.out).mono ?_
 rw [← HCR.out]
 rintro e w8 ⟨rfl, hb⟩
 refine ⟨_, rfl, ?_⟩
 have F8 := Aside0.mk (blk_below F7.out hb)
 have Q8 := Aside0.mk (blk_below Q7.out hb)
 have R8 := Aside0.mk (blk_below R7.out hb)
 have T8 := Aside0.mk (T7.out.below hb)
 have D8 := Aside0.mk (grown_step D7.out hb)
 have B8 := Aside0.mk (below_step B7.out hb)
 clear hb
 refine hK.out _ _ ((blk_cell F8.out 5).trans rfl) (fun hHeld => ?_)
 clear hK K
 refine norm_ (a' := ?_) ?_ ?_
 rotate_left
 ·show Act.put _ (some 51) _ = _
  simp only [Act.put, List.setIfInBounds_toArray, List.set_cons_zero, List.set_cons_succ, i64_w, i32_w]
  rfl
 refine pure_ (i := 8) (N := some 52) (v := ?_) (a' := ?_) #[tt_,tt_,tt_,tt_,tt_,tt_,tt_,tt_,tt_,ff_] rfl rfl (by kernel_rfl) (fun _ _ _ h => h) (Or.inl ⟨by rfl, ?_⟩) ?_ ?_
 rotate_left
 ·intro w'
  go_simp
  with_reducible rfl
 rotate_left
 ·simp only [Act.put, List.setIfInBounds_toArray, List.set_cons_zero, List.set_cons_succ, i64_w, i32_w]
  rfl
 refine pure_ (i := 9) (N := some 53) (v := ?_) (a' := ?_) #[tt_,tt_,tt_,tt_,tt_,tt_,tt_,tt_,tt_,tt_] rfl rfl (by kernel_rfl) (fun _ _ _ h => h) (Or.inl ⟨by rfl, ?_⟩) ?_ ?_
 rotate_left
 ·intro w'
  go_simp
  with_reducible rfl
 rotate_left
 ·simp only [Act.put, List.setIfInBounds_toArray, List.set_cons_zero, List.set_cons_succ, i64_w, i32_w]
  rfl
 refine done_ (by kernel_rfl) ?_
 have yy0 := (blk_cell Q8.out 0).trans rfl
 have yy1 := (blk_cell Q8.out 1).trans rfl
 have yy2 := (blk_cell Q8.out 2).trans rfl
 have yy3 := (blk_cell Q8.out 3).trans rfl
 go_wp2
 go_quiet (fail)
 have F8d := Aside0.mk (blk_drewN F8.out nq)
 have R8d := Aside0.mk (blk_drewN R8.out nq)
 have D8d := Aside0.mk (gdrewN D8.out nq)
 have B8d := Aside0.mk (pw_below_drewN B8.out nq)
 generalize w8.drewN nq = w8' at *
 clear yy0 yy1 yy2 yy3
 go_wp2_with (go_at_call 97; with_reducible refine (Dec_sube (n := n) (m := ar) (l := subN b at0 n) (kd := kd) HDEC2.out ?h1 HLN.out HN8.out HNL.out HAR.out).mono ?_; (case h1 => exact Kd.C_below C4.out B8d.out); rintro e w9 ⟨rfl, hb⟩; have R9 := Aside0.mk (blk_below R8d.out hb); have D9 := Aside0.mk (grown_step D8d.out hb); clear hb; have o0 := (blk_cell R9.out 0).trans rfl; have o1 := (blk_cell R9.out 1).trans rfl; have o2 := (blk_cell R9.out 2).trans rfl; have fo0 := blk_frozen R9.out 0; have fo1 := blk_frozen R9.out 1; have fo2 := blk_frozen R9.out 2)
 obtain ⟨wz, hwz⟩ : ∃ wz, wz = ((w9.setCell ⟨gR, 0, none⟩ (.int .i64 0)).setCell ⟨gR, 1, none⟩ (.int .i64 0)).setCell ⟨gR, 2, none⟩ (.slice none 0 0) := ⟨_, rfl⟩
 rw [← hwz]
 obtain ⟨hGz, hstz, hblz⟩ := put3 R9.out hwz
 refine bodyPost_ret (results_ct rfl _ _ gR 31 #[.int .i64 0, .int .i64 0, .slice none 0 0] (0, 0) _ rfl hGz Try.underlying31 rfl (by kernel_rfl)) rfl ?_
 refine ⟨?_, ?_⟩
 ·rfl
 ·have hbz := hblz w.heap.size GR.out
  exact ⟨hbz.os.trans D9.out.os, hbz.tape.trans D9.out.tape, hbz.output.trans D9.out.output, Nat.le_trans D9.out.size hbz.size, fun k hk hne => (hbz.block k hk).trans (D9.out.block k hk hne)⟩

set_option maxHeartbeats 8000000 in
set_option maxRecDepth 100000 in
theorem part_short2 (gf gT i n at0 dw dh cap cv x0 y0 x1 y1 sp pl W H S : Nat) (ad av : Addr) (idx b : List Nat) (w0 w : World) (hF : w.heap[gf]? = some (.cells #[.int .i64 (sp : Int), .int .i64 (pl : Int), .int .i64 (W : Int), .int .i64 (H : Int), .int .i64 (S : Int), .pointer (some ⟨gT, 0, none⟩), .slice (some av) idx.length cv, .slice (some ad) b.length cap, .int .i64 (at0 : Int)] 121 (0, 0))) (hT : TB w gT) (hC : (nat .u8).C w0 (some ad) b.length b) (hB : Below w0.heap.size w0 w) (hgf : w0.heap.size ≤ gf) (hI : w.cell? (av.add i) = some (.int .i64 (n : Int))) (hib : (av.add i).block ≠ gf) (hi : i < idx.length)
    (hcap : b.length ≤ cap) (h8 : ∀ i, gt b i < 256) (hl : b.length ≤ 4194304) (hn : at0 + n ≤ b.length) (hs : b.length < at0 + n + 4) (hx : x1 = x0 + dw) (hy : y1 = y0 + dh) (hx2 : x1 ≤ 1048576) (hy2 : y1 ≤ 1048576) :
    Calls Try.prog 77 #[.pointer (some ⟨gf, 0, none⟩), .int .i64 (i : Int), .agg #[.int .i64 (x0 : Int), .int .i64 (y0 : Int), .int .i64 (x1 : Int), .int .i64 (y1 : Int)]] w fun e w1 => e = .returned (.tuple #[.agg #[.int .i64 0, .int .i64 0, .slice none 0 0], .int .i64 182]) ∧ w.grownBy w1 (some gf) := by
 have hu121 := Try.underlying121
 have hu119 := Try.underlying119
 have hu73 := Try.underlying73
 have hu31 := Try.underlying31
 obtain ⟨at1, hat1⟩ : ∃ a, a = at0 + n := ⟨_, rfl⟩
 have HA1 := Aside0.mk hat1
 have HAT : Aside0 (at0 ≤ b.length) := ⟨by omega⟩
 have HN1 : Aside0 (at0 + n ≤ b.length) := ⟨by omega⟩
 have HN2 : Aside0 (b.length < at1 + 4) := ⟨by omega⟩
 have HAT1 : Aside0 (at1 ≤ b.length) := ⟨by omega⟩
 have HL2 : Aside0 (b.length < 4611686018427387904) := ⟨by omega⟩
 have HL3 := Aside0.mk hl
 have HC := Aside0.mk hC
 have HCAP := Aside0.mk hcap
 have H8 := Aside0.mk h8
 have HIB := Aside0.mk hib
 have HF0 := Aside0.mk hF
 have HT0 := Aside0.mk hT
 have HI0 := Aside0.mk hI
 have HB0 := Aside0.mk hB
 have HGF := Aside0.mk hgf
 have i1 : ((i : Int) < (idx.length : Int)) = True := eq_true (by omega)
 have i2 : (i < idx.length) = True := eq_true hi
 have a1 : (x1 : Int) - (x0 : Int) = (dw : Int) := by omega
 have a2 : (y1 : Int) - (y0 : Int) = (dh : Int) := by omega
 have a3 : dw < 4611686018427387904 := by omega
 have a4 : dh < 4611686018427387904 := by omega
 clear hF hT hC hB hgf hI hib hi hcap h8 hl hn hs hx hy hx2 hy2 hat1
 have e1 := wrapI a1 a3
 have e2 := wrapI a2 a4
 clear a1 a2 a3 a4
 go_enter Try.func77, Try.ntmps77
 go_wp2_with (first | ((with_reducible refine gate_dst (N := 5) rfl ?_); refine box_event ?hg (N := 5) ?hd (cs := #[.int .i64 (x0 : Int), .int .i64 (y0 : Int), .int .i64 (x1 : Int), .int .i64 (y1 : Int)]) (t := 73) ?hr ?_; (case hd => rfl); (case hg => rfl); (case hr => first | (go_simp; done) | (go_simp; rfl)); intro gq hg_ w1 hm_ hb_; have Q1 := Aside0.mk (hm_); have F1 := Aside0.mk (blk_below HF0.out hb_); have T1 := Aside0.mk (HT0.out.below hb_); have D1 := Aside0.mk (show w.grownBy w1 (some gf) from grown_step (World.grownBy.refl w _) hb_); have I1 := Aside0.mk ((hb_.cell (World.block_lt_of_cell? w _ HI0.out)).trans HI0.out); have GQ := Aside0.mk (show w.heap.size ≤ gq by rw [hg_]; exact Nat.le_refl _); clear hm_ hb_ hg_) | ((with_reducible refine gate_dst (N := 6) rfl ?_); refine box_event ?hg (N := 6) ?hd (cs := #[.int .i64 0, .int .i64 0, .slice none 0 0]) (t := 31) ?hr ?_; (case hd => rfl); (case hg => rfl); (case hr => first | (go_simp; done) | (go_simp; rfl)); intro gR hg_ w2 hm_ hb_; have R2 := Aside0.mk (hm_); have Q2 := Aside0.mk (blk_below Q1.out hb_); have F2 := Aside0.mk (blk_below F1.out hb_); have T2 := Aside0.mk (T1.out.below hb_); have D2 := Aside0.mk (grown_step D1.out hb_); have I2 := Aside0.mk ((hb_.cell (World.block_lt_of_cell? w1 _ I1.out)).trans I1.out); have GR := Aside0.mk (show w.heap.size ≤ gR by rw [hg_]; exact D1.out.size); clear hm_ hb_ hg_))
 have F3 := Aside0.mk (blk_drew F2.out); have Q3 := Aside0.mk (blk_drew Q2.out); have R3 := Aside0.mk (blk_drew R2.out); have T3 := Aside0.mk (T2.out.below (below_drew1 (Below.refl _ w2)))
 have D3 : Aside0 (w.grownBy w2.drew (some gf)) := ⟨grown_step D2.out (below_drew1 (Below.refl _ _))⟩
 have I3 : Aside0 (w2.drew.cell? (av.add i) = some (.int .i64 (n : Int))) := ⟨I2.out⟩
 clear F2 Q2 R2 T2 D2 I2 F1 Q1 T1 D1 I1
 refine start_ (n := 16) (S := fun w' => w'.cell? ⟨gf, 6, none⟩ = some (.slice (some av) idx.length cv) ∧ w'.cell? (av.add i) = some (.int .i64 (n : Int))) (ds := []) #[ff_,ff_,ff_,ff_,ff_,ff_,ff_,ff_,ff_,ff_,ff_,ff_,ff_,ff_,ff_,ff_] (by kernel_rfl) rfl rfl ⟨(blk_cell F3.out 6).trans rfl, I3.out⟩ (fun hHeld => ?_)
 generalize w2.drew = wd at *
 refine pure_ (i := 0) (N := some 17) (v := ?_) (a' := ?_) #[tt_,ff_,ff_,ff_,ff_,ff_,ff_,ff_,ff_,ff_,ff_,ff_,ff_,ff_,ff_,ff_] rfl rfl (by kernel_rfl) (fun _ _ _ h => h) (Or.inl ⟨by rfl, ?_⟩) ?_ ?_
 rotate_left
 ·intro w'
  go_simp
  with_reducible rfl
 rotate_left
 ·simp only [Act.put, List.setIfInBounds_toArray, List.set_cons_zero, List.set_cons_succ, i64_w, i32_w]
  rfl
 refine pure_ (i := 1) (N := some 18) (v := ?_) (a' := ?_) #[tt_,tt_,ff_,ff_,ff_,ff_,ff_,ff_,ff_,ff_,ff_,ff_,ff_,ff_,ff_,ff_] rfl rfl (by kernel_rfl) (fun _ _ _ h => h) (Or.inl ⟨by rfl, ?_⟩) ?_ ?_
 rotate_left
 ·intro w'
  go_simp
  with_reducible rfl
 rotate_left
 ·simp only [Act.put, List.setIfInBounds_toArray, List.set_cons_zero, List.set_cons_succ, i64_w, i32_w]
  rfl
 refine pure_ (i := 2) (N := some 19) (v := ?_) (a' := ?_) #[tt_,tt_,tt_,ff_,ff_,ff_,ff_,ff_,ff_,ff_,ff_,ff_,ff_,ff_,ff_,ff_] rfl rfl (by kernel_rfl) (fun _ _ _ h => h) (Or.inl ⟨by rfl, ?_⟩) ?_ ?_
 rotate_left
 ·intro w'
  go_simp
  with_reducible rfl
 rotate_left
 ·simp only [Act.put, List.setIfInBounds_toArray, List.set_cons_zero, List.set_cons_succ, i64_w, i32_w]
  rfl
 refine pure_ (i := 3) (N := some 20) (v := ?_) (a' := ?_) #[tt_,tt_,tt_,tt_,ff_,ff_,ff_,ff_,ff_,ff_,ff_,ff_,ff_,ff_,ff_,ff_] rfl rfl (by kernel_rfl) (fun _ _ _ h => h) (Or.inl ⟨by rfl, ?_⟩) ?_ ?_
 rotate_left
 ·intro w'
  go_simp
  with_reducible rfl
 rotate_left
 ·simp only [Act.put, List.setIfInBounds_toArray, List.set_cons_zero, List.set_cons_succ, i64_w, i32_w]
  rfl
 refine pure_ (i := 4) (N := some 21) (v := ?_) (a' := ?_) #[tt_,tt_,tt_,tt_,tt_,ff_,ff_,ff_,ff_,ff_,ff_,ff_,ff_,ff_,ff_,ff_] rfl rfl (by kernel_rfl) (fun _ _ _ h => h) (Or.inl ⟨by rfl, ?_⟩) ?_ ?_
 rotate_left
 ·intro w'
  go_simp
  with_reducible rfl
 rotate_left
 ·simp only [Act.put, List.setIfInBounds_toArray, List.set_cons_zero, List.set_cons_succ, i64_w, i32_w]
  rfl
 refine pure_ (i := 5) (N := some 22) (v := ?_) (a' := ?_) #[tt_,tt_,tt_,tt_,tt_,tt_,ff_,ff_,ff_,ff_,ff_,ff_,ff_,ff_,ff_,ff_] rfl rfl (by kernel_rfl) (fun _ _ _ h => h) (Or.inl ⟨by rfl, ?_⟩) ?_ ?_
 rotate_left
 ·intro w'
  go_simp
  with_reducible rfl
 rotate_left
 ·simp only [Act.put, List.setIfInBounds_toArray, List.set_cons_zero, List.set_cons_succ, i64_w, i32_w]
  rfl
 refine pure_ (i := 7) (N := some 24) (v := ?_) (a' := ?_) #[tt_,tt_,tt_,tt_,tt_,tt_,ff_,tt_,ff_,ff_,ff_,ff_,ff_,ff_,ff_,ff_] rfl rfl (by kernel_rfl) (fun _ _ _ h => h) (Or.inl ⟨by rfl, ?_⟩) ?_ ?_
 rotate_left
 ·intro w'
  go_simp
  with_reducible rfl
 rotate_left
 ·simp only [Act.put, List.setIfInBounds_toArray, List.set_cons_zero, List.set_cons_succ, i64_w, i32_w]
  rfl
 refine take_ (i := 6) (N := some 23) (v := ?_) (a' := ?_) #[tt_,tt_,tt_,tt_,tt_,tt_,tt_,tt_,ff_,ff_,ff_,ff_,ff_,ff_,ff_,ff_] rfl rfl (by kernel_rfl) (fun _ _ _ h => h) (Or.inl ⟨by rfl, ?_⟩) hHeld ?_ ?_
 rotate_left
 ·rintro w' ⟨s0, s1⟩
  go_simp
  with_reducible rfl
 rotate_left
 ·simp only [Act.put, List.setIfInBounds_toArray, List.set_cons_zero, List.set_cons_succ, i64_w, i32_w]
  rfl
 refine pure_ (i := 8) (N := some 25) (v := ?_) (a' := ?_) #[tt_,tt_,tt_,tt_,tt_,tt_,tt_,tt_,tt_,ff_,ff_,ff_,ff_,ff_,ff_,ff_] rfl rfl (by kernel_rfl) (fun _ _ _ h => h) (Or.inl ⟨by rfl, ?_⟩) ?_ ?_
 rotate_left
 ·intro w'
  go_simp
  with_reducible rfl
 rotate_left
 ·simp only [Act.put, List.setIfInBounds_toArray, List.set_cons_zero, List.set_cons_succ, i64_w, i32_w]
  rfl
 refine take_ (i := 9) (N := some 26) (v := ?_) (a' := ?_) #[tt_,tt_,tt_,tt_,tt_,tt_,tt_,tt_,tt_,tt_,ff_,ff_,ff_,ff_,ff_,ff_] rfl rfl (by kernel_rfl) (fun _ _ _ h => h) (Or.inl ⟨by rfl, ?_⟩) hHeld ?_ ?_
 rotate_left
 ·rintro w' ⟨s0, s1⟩
  go_simp
  with_reducible rfl
 rotate_left
 ·simp only [Act.put, List.setIfInBounds_toArray, List.set_cons_zero, List.set_cons_succ, i64_w, i32_w]
  rfl
 refine one_ (i := 10) (N := some 27) #[tt_,tt_,tt_,tt_,tt_,tt_,tt_,tt_,tt_,tt_,tt_,ff_,ff_,ff_,ff_,ff_] rfl rfl (by kernel_rfl) (by decide) (fun K hK => ?_)
 refine goes_ Try.func92 (by kernel_rfl) rfl #[.pointer (some ⟨gf, 7, none⟩), .int .i64 (n : Int)] (by rfl) rfl rfl (by (try simp only [List.map_toArray, List.map_cons, List.map_nil]); rfl) ?_
 refine (take_calls gf 7 n at0 cap ad b w0 _ HC.out ((blk_cell F3.out 7).trans rfl) ((blk_cell F3.out 8).trans rfl) (blk_frozen F3.out 8) HCAP.out HAT.out HL2.out HN1.out).mono ?_
 rintro e w4 ⟨A1, k4, rfl, hC4, hw4⟩
 refine ⟨_, rfl, ?_⟩
 have X4 := Aside0.mk (takeW F3.out hw4)
 have C4 := Aside0.mk hC4
 have Q4 := Aside0.mk ((X4.out.2.1 gq (blk_ne Q3.out F3.out (by decide))).trans Q3.out)
 have R4 := Aside0.mk ((X4.out.2.1 gR (blk_ne R3.out F3.out (by decide))).trans R3.out)
 have F4 : Aside0 (w4.heap[gf]? = some (.cells #[.int .i64 (sp : Int), .int .i64 (pl : Int), .int .i64 (W : Int), .int .i64 (H : Int), .int .i64 (S : Int), .pointer (some ⟨gT, 0, none⟩), .slice (some av) idx.length cv, .slice (some ad) b.length cap, .int .i64 (at1 : Int)] 121 (0, 0))) := ⟨by rw [HA1.out]; exact X4.out.1⟩
 have T4 : Aside0 (TB w4 gT) := ⟨by obtain ⟨ct, hct⟩ := T3.out.block; exact T3.out.move (X4.out.2.1 gT (blk_ne hct F3.out (by decide)))⟩
 have D4 : Aside0 (w.grownBy w4 (some gf)) := ⟨by rw [hw4]; exact gset (gdrewN D3.out _) 8 _⟩
 have I4 : Aside0 (w4.cell? (av.add i) = some (.int .i64 (n : Int))) := ⟨(World.cell?_of_block (X4.out.2.1 _ HIB.out)).trans I3.out⟩
 clear hC4 hw4
 refine hK.out _ _ ⟨(blk_cell F4.out 6).trans rfl, I4.out⟩ (fun hHeld => ?_)
 clear hK K
 refine norm_ (a' := ?_) ?_ ?_
 rotate_left
 ·show Act.put _ (some 27) _ = _
  simp only [Act.put, List.setIfInBounds_toArray, List.set_cons_zero, List.set_cons_succ, i64_w, i32_w]
  rfl
 refine pure_ (i := 11) (N := some 16) (v := ?_) (a' := ?_) #[tt_,tt_,tt_,tt_,tt_,tt_,tt_,tt_,tt_,tt_,tt_,tt_,ff_,ff_,ff_,ff_] rfl rfl (by kernel_rfl) (fun _ _ _ h => h) (Or.inl ⟨by rfl, ?_⟩) ?_ ?_
 rotate_left
 ·intro w'
  go_simp
  with_reducible rfl
 rotate_left
 ·simp only [Act.put, List.setIfInBounds_toArray, List.set_cons_zero, List.set_cons_succ, i64_w, i32_w]
  rfl
 refine pure_ (i := 12) (N := some 28) (v := ?_) (a' := ?_) #[tt_,tt_,tt_,tt_,tt_,tt_,tt_,tt_,tt_,tt_,tt_,tt_,tt_,ff_,ff_,ff_] rfl rfl (by kernel_rfl) (fun _ _ _ h => h) (Or.inl ⟨by rfl, ?_⟩) ?_ ?_
 rotate_left
 ·intro w'
  go_simp
  with_reducible rfl
 rotate_left
 ·simp only [Act.put, List.setIfInBounds_toArray, List.set_cons_zero, List.set_cons_succ, i64_w, i32_w]
  rfl
 refine pure_ (i := 13) (N := some 29) (v := ?_) (a' := ?_) #[tt_,tt_,tt_,tt_,tt_,tt_,tt_,tt_,tt_,tt_,tt_,tt_,tt_,tt_,ff_,ff_] rfl rfl (by kernel_rfl) (fun _ _ _ h => h) (Or.inl ⟨by rfl, ?_⟩) ?_ ?_
 rotate_left
 ·intro w'
  go_simp
  with_reducible rfl
 rotate_left
 ·simp only [Act.put, List.setIfInBounds_toArray, List.set_cons_zero, List.set_cons_succ, i64_w, i32_w]
  rfl
 refine pure_ (i := 14) (N := some 8) (v := ?_) (a' := ?_) #[tt_,tt_,tt_,tt_,tt_,tt_,tt_,tt_,tt_,tt_,tt_,tt_,tt_,tt_,tt_,ff_] rfl rfl (by kernel_rfl) (fun _ _ _ h => h) (Or.inl ⟨by rfl, ?_⟩) ?_ ?_
 rotate_left
 ·intro w'
  go_simp
  with_reducible rfl
 rotate_left
 ·simp only [Act.put, List.setIfInBounds_toArray, List.set_cons_zero, List.set_cons_succ, i64_w, i32_w]
  rfl
 refine pure_ (i := 15) (N := some 9) (v := ?_) (a' := ?_) #[tt_,tt_,tt_,tt_,tt_,tt_,tt_,tt_,tt_,tt_,tt_,tt_,tt_,tt_,tt_,tt_] rfl rfl (by kernel_rfl) (fun _ _ _ h => h) (Or.inl ⟨by rfl, ?_⟩) ?_ ?_
 rotate_left
 ·intro w'
  go_simp
  with_reducible rfl
 rotate_left
 ·simp only [Act.put, List.setIfInBounds_toArray, List.set_cons_zero, List.set_cons_succ, i64_w, i32_w]
  rfl
 refine done_ (by kernel_rfl) ?_
 have B4 : Aside0 (Below w0.heap.size w0 w4) := ⟨HB0.out.trans ⟨D4.out.os, D4.out.tape, D4.out.output, D4.out.size, fun k hk => D4.out.block k (Nat.lt_of_lt_of_le hk HB0.out.size) (by intro e; injection e with e; have := HGF.out; omega)⟩⟩
 have c7 : Aside0 (w4.cell? ⟨gf, 7, none⟩ = some (.slice (some ad) b.length cap)) := ⟨(blk_cell F4.out 7).trans rfl⟩
 have c8 : Aside0 (w4.cell? ⟨gf, 7 + 1, none⟩ = some (.int .i64 (at1 : Int))) := ⟨(blk_cell F4.out 8).trans rfl⟩
 go_wp2_with (go_at_call 92; with_reducible refine (take4_short gf 7 at1 cap (some ad) b _ ?h1 ?h2 HAT1.out HL2.out HN2.out).mono ?_; (case h1 => exact c7.out); (case h2 => exact c8.out); rintro e w5 ⟨rfl, hb⟩; have R5 := Aside0.mk (blk_below R4.out hb); have D5 := Aside0.mk (grown_step D4.out hb); clear hb; have o0 := (blk_cell R5.out 0).trans rfl; have o1 := (blk_cell R5.out 1).trans rfl; have o2 := (blk_cell R5.out 2).trans rfl; have fo0 := blk_frozen R5.out 0; have fo1 := blk_frozen R5.out 1; have fo2 := blk_frozen R5.out 2)
 obtain ⟨wz, hwz⟩ : ∃ wz, wz = ((w5.setCell ⟨gR, 0, none⟩ (.int .i64 0)).setCell ⟨gR, 1, none⟩ (.int .i64 0)).setCell ⟨gR, 2, none⟩ (.slice none 0 0) := ⟨_, rfl⟩
 rw [← hwz]
 obtain ⟨hGz, hstz, hblz⟩ := put3 R5.out hwz
 refine bodyPost_ret (results_ct rfl _ _ gR 31 #[.int .i64 0, .int .i64 0, .slice none 0 0] (0, 0) _ rfl hGz Try.underlying31 rfl (by kernel_rfl)) rfl ?_
 refine ⟨?_, ?_⟩
 ·rfl
 ·have hbz := hblz w.heap.size GR.out
  exact ⟨hbz.os.trans D5.out.os, hbz.tape.trans D5.out.tape, hbz.output.trans D5.out.output, Nat.le_trans D5.out.size hbz.size, fun k hk hne => (hbz.block k hk).trans (D5.out.block k hk hne)⟩

set_option maxHeartbeats 8000000 in
set_option maxRecDepth 100000 in
theorem part_short1 (gf gT i n at0 dw dh cap cv x0 y0 x1 y1 sp pl W H S : Nat) (ad av : Addr) (idx b : List Nat) (w0 w : World) (hF : w.heap[gf]? = some (.cells #[.int .i64 (sp : Int), .int .i64 (pl : Int), .int .i64 (W : Int), .int .i64 (H : Int), .int .i64 (S : Int), .pointer (some ⟨gT, 0, none⟩), .slice (some av) idx.length cv, .slice (some ad) b.length cap, .int .i64 (at0 : Int)] 121 (0, 0))) (hT : TB w gT) (hC : (nat .u8).C w0 (some ad) b.length b) (hB : Below w0.heap.size w0 w) (hgf : w0.heap.size ≤ gf) (hI : w.cell? (av.add i) = some (.int .i64 (n : Int))) (hib : (av.add i).block ≠ gf) (hi : i < idx.length)
    (hcap : b.length ≤ cap) (h8 : ∀ i, gt b i < 256) (hl : b.length ≤ 4194304) (hat : at0 ≤ b.length) (hs : b.length < at0 + n) (hn : n < 4611686018427387904) (hx : x1 = x0 + dw) (hy : y1 = y0 + dh) (hx2 : x1 ≤ 1048576) (hy2 : y1 ≤ 1048576) :
    Calls Try.prog 77 #[.pointer (some ⟨gf, 0, none⟩), .int .i64 (i : Int), .agg #[.int .i64 (x0 : Int), .int .i64 (y0 : Int), .int .i64 (x1 : Int), .int .i64 (y1 : Int)]] w fun e w1 => e = .returned (.tuple #[.agg #[.int .i64 0, .int .i64 0, .slice none 0 0], .int .i64 182]) ∧ w.grownBy w1 (some gf) := by
 have hu121 := Try.underlying121
 have hu119 := Try.underlying119
 have hu73 := Try.underlying73
 have hu31 := Try.underlying31
 obtain ⟨at1, hat1⟩ : ∃ a, a = at0 + n := ⟨_, rfl⟩
 have HA1 := Aside0.mk hat1
 have HAT := Aside0.mk hat
 have HNS := Aside0.mk hs
 have HNB := Aside0.mk hn
 have HL2 : Aside0 (b.length < 4611686018427387904) := ⟨by omega⟩
 have HL3 := Aside0.mk hl
 have HC := Aside0.mk hC
 have HCAP := Aside0.mk hcap
 have H8 := Aside0.mk h8
 have HIB := Aside0.mk hib
 have HF0 := Aside0.mk hF
 have HT0 := Aside0.mk hT
 have HI0 := Aside0.mk hI
 have HB0 := Aside0.mk hB
 have HGF := Aside0.mk hgf
 have i1 : ((i : Int) < (idx.length : Int)) = True := eq_true (by omega)
 have i2 : (i < idx.length) = True := eq_true hi
 have a1 : (x1 : Int) - (x0 : Int) = (dw : Int) := by omega
 have a2 : (y1 : Int) - (y0 : Int) = (dh : Int) := by omega
 have a3 : dw < 4611686018427387904 := by omega
 have a4 : dh < 4611686018427387904 := by omega
 clear hF hT hC hB hgf hI hib hi hcap h8 hl hat hs hn hx hy hx2 hy2 hat1
 have e1 := wrapI a1 a3
 have e2 := wrapI a2 a4
 clear a1 a2 a3 a4
 go_enter Try.func77, Try.ntmps77
 go_wp2_with (first | ((with_reducible refine gate_dst (N := 5) rfl ?_); refine box_event ?hg (N := 5) ?hd (cs := #[.int .i64 (x0 : Int), .int .i64 (y0 : Int), .int .i64 (x1 : Int), .int .i64 (y1 : Int)]) (t := 73) ?hr ?_; (case hd => rfl); (case hg => rfl); (case hr => first | (go_simp; done) | (go_simp; rfl)); intro gq hg_ w1 hm_ hb_; have Q1 := Aside0.mk (hm_); have F1 := Aside0.mk (blk_below HF0.out hb_); have T1 := Aside0.mk (HT0.out.below hb_); have D1 := Aside0.mk (show w.grownBy w1 (some gf) from grown_step (World.grownBy.refl w _) hb_); have I1 := Aside0.mk ((hb_.cell (World.block_lt_of_cell? w _ HI0.out)).trans HI0.out); have GQ := Aside0.mk (show w.heap.size ≤ gq by rw [hg_]; exact Nat.le_refl _); clear hm_ hb_ hg_) | ((with_reducible refine gate_dst (N := 6) rfl ?_); refine box_event ?hg (N := 6) ?hd (cs := #[.int .i64 0, .int .i64 0, .slice none 0 0]) (t := 31) ?hr ?_; (case hd => rfl); (case hg => rfl); (case hr => first | (go_simp; done) | (go_simp; rfl)); intro gR hg_ w2 hm_ hb_; have R2 := Aside0.mk (hm_); have Q2 := Aside0.mk (blk_below Q1.out hb_); have F2 := Aside0.mk (blk_below F1.out hb_); have T2 := Aside0.mk (T1.out.below hb_); have D2 := Aside0.mk (grown_step D1.out hb_); have I2 := Aside0.mk ((hb_.cell (World.block_lt_of_cell? w1 _ I1.out)).trans I1.out); have GR := Aside0.mk (show w.heap.size ≤ gR by rw [hg_]; exact D1.out.size); clear hm_ hb_ hg_))
 have F3 := Aside0.mk (blk_drew F2.out); have Q3 := Aside0.mk (blk_drew Q2.out); have R3 := Aside0.mk (blk_drew R2.out); have T3 := Aside0.mk (T2.out.below (below_drew1 (Below.refl _ w2)))
 have D3 : Aside0 (w.grownBy w2.drew (some gf)) := ⟨grown_step D2.out (below_drew1 (Below.refl _ _))⟩
 have I3 : Aside0 (w2.drew.cell? (av.add i) = some (.int .i64 (n : Int))) := ⟨I2.out⟩
 clear F2 Q2 R2 T2 D2 I2 F1 Q1 T1 D1 I1
 refine start_ (n := 16) (S := fun w' => w'.cell? ⟨gf, 6, none⟩ = some (.slice (some av) idx.length cv) ∧ w'.cell? (av.add i) = some (.int .i64 (n : Int))) (ds := []) #[ff_,ff_,ff_,ff_,ff_,ff_,ff_,ff_,ff_,ff_,ff_,ff_,ff_,ff_,ff_,ff_] (by kernel_rfl) rfl rfl ⟨(blk_cell F3.out 6).trans rfl, I3.out⟩ (fun hHeld => ?_)
 generalize w2.drew = wd at *
 refine pure_ (i := 0) (N := some 17) (v := ?_) (a' := ?_) #[tt_,ff_,ff_,ff_,ff_,ff_,ff_,ff_,ff_,ff_,ff_,ff_,ff_,ff_,ff_,ff_] rfl rfl (by kernel_rfl) (fun _ _ _ h => h) (Or.inl ⟨by rfl, ?_⟩) ?_ ?_
 rotate_left
 ·intro w'
  go_simp
  with_reducible rfl
 rotate_left
 ·simp only [Act.put, List.setIfInBounds_toArray, List.set_cons_zero, List.set_cons_succ, i64_w, i32_w]
  rfl
 refine pure_ (i := 1) (N := some 18) (v := ?_) (a' := ?_) #[tt_,tt_,ff_,ff_,ff_,ff_,ff_,ff_,ff_,ff_,ff_,ff_,ff_,ff_,ff_,ff_] rfl rfl (by kernel_rfl) (fun _ _ _ h => h) (Or.inl ⟨by rfl, ?_⟩) ?_ ?_
 rotate_left
 ·intro w'
  go_simp
  with_reducible rfl
 rotate_left
 ·simp only [Act.put, List.setIfInBounds_toArray, List.set_cons_zero, List.set_cons_succ, i64_w, i32_w]
  rfl
 refine pure_ (i := 2) (N := some 19) (v := ?_) (a' := ?_) #[tt_,tt_,tt_,ff_,ff_,ff_,ff_,ff_,ff_,ff_,ff_,ff_,ff_,ff_,ff_,ff_] rfl rfl (by kernel_rfl) (fun _ _ _ h => h) (Or.inl ⟨by rfl, ?_⟩) ?_ ?_
 rotate_left
 ·intro w'
  go_simp
  with_reducible rfl
 rotate_left
 ·simp only [Act.put, List.setIfInBounds_toArray, List.set_cons_zero, List.set_cons_succ, i64_w, i32_w]
  rfl
 refine pure_ (i := 3) (N := some 20) (v := ?_) (a' := ?_) #[tt_,tt_,tt_,tt_,ff_,ff_,ff_,ff_,ff_,ff_,ff_,ff_,ff_,ff_,ff_,ff_] rfl rfl (by kernel_rfl) (fun _ _ _ h => h) (Or.inl ⟨by rfl, ?_⟩) ?_ ?_
 rotate_left
 ·intro w'
  go_simp
  with_reducible rfl
 rotate_left
 ·simp only [Act.put, List.setIfInBounds_toArray, List.set_cons_zero, List.set_cons_succ, i64_w, i32_w]
  rfl
 refine pure_ (i := 4) (N := some 21) (v := ?_) (a' := ?_) #[tt_,tt_,tt_,tt_,tt_,ff_,ff_,ff_,ff_,ff_,ff_,ff_,ff_,ff_,ff_,ff_] rfl rfl (by kernel_rfl) (fun _ _ _ h => h) (Or.inl ⟨by rfl, ?_⟩) ?_ ?_
 rotate_left
 ·intro w'
  go_simp
  with_reducible rfl
 rotate_left
 ·simp only [Act.put, List.setIfInBounds_toArray, List.set_cons_zero, List.set_cons_succ, i64_w, i32_w]
  rfl
 refine pure_ (i := 5) (N := some 22) (v := ?_) (a' := ?_) #[tt_,tt_,tt_,tt_,tt_,tt_,ff_,ff_,ff_,ff_,ff_,ff_,ff_,ff_,ff_,ff_] rfl rfl (by kernel_rfl) (fun _ _ _ h => h) (Or.inl ⟨by rfl, ?_⟩) ?_ ?_
 rotate_left
 ·intro w'
  go_simp
  with_reducible rfl
 rotate_left
 ·simp only [Act.put, List.setIfInBounds_toArray, List.set_cons_zero, List.set_cons_succ, i64_w, i32_w]
  rfl
 refine pure_ (i := 7) (N := some 24) (v := ?_) (a' := ?_) #[tt_,tt_,tt_,tt_,tt_,tt_,ff_,tt_,ff_,ff_,ff_,ff_,ff_,ff_,ff_,ff_] rfl rfl (by kernel_rfl) (fun _ _ _ h => h) (Or.inl ⟨by rfl, ?_⟩) ?_ ?_
 rotate_left
 ·intro w'
  go_simp
  with_reducible rfl
 rotate_left
 ·simp only [Act.put, List.setIfInBounds_toArray, List.set_cons_zero, List.set_cons_succ, i64_w, i32_w]
  rfl
 refine take_ (i := 6) (N := some 23) (v := ?_) (a' := ?_) #[tt_,tt_,tt_,tt_,tt_,tt_,tt_,tt_,ff_,ff_,ff_,ff_,ff_,ff_,ff_,ff_] rfl rfl (by kernel_rfl) (fun _ _ _ h => h) (Or.inl ⟨by rfl, ?_⟩) hHeld ?_ ?_
 rotate_left
 ·rintro w' ⟨s0, s1⟩
  go_simp
  with_reducible rfl
 rotate_left
 ·simp only [Act.put, List.setIfInBounds_toArray, List.set_cons_zero, List.set_cons_succ, i64_w, i32_w]
  rfl
 refine pure_ (i := 8) (N := some 25) (v := ?_) (a' := ?_) #[tt_,tt_,tt_,tt_,tt_,tt_,tt_,tt_,tt_,ff_,ff_,ff_,ff_,ff_,ff_,ff_] rfl rfl (by kernel_rfl) (fun _ _ _ h => h) (Or.inl ⟨by rfl, ?_⟩) ?_ ?_
 rotate_left
 ·intro w'
  go_simp
  with_reducible rfl
 rotate_left
 ·simp only [Act.put, List.setIfInBounds_toArray, List.set_cons_zero, List.set_cons_succ, i64_w, i32_w]
  rfl
 refine take_ (i := 9) (N := some 26) (v := ?_) (a' := ?_) #[tt_,tt_,tt_,tt_,tt_,tt_,tt_,tt_,tt_,tt_,ff_,ff_,ff_,ff_,ff_,ff_] rfl rfl (by kernel_rfl) (fun _ _ _ h => h) (Or.inl ⟨by rfl, ?_⟩) hHeld ?_ ?_
 rotate_left
 ·rintro w' ⟨s0, s1⟩
  go_simp
  with_reducible rfl
 rotate_left
 ·simp only [Act.put, List.setIfInBounds_toArray, List.set_cons_zero, List.set_cons_succ, i64_w, i32_w]
  rfl
 refine one_ (i := 10) (N := some 27) #[tt_,tt_,tt_,tt_,tt_,tt_,tt_,tt_,tt_,tt_,tt_,ff_,ff_,ff_,ff_,ff_] rfl rfl (by kernel_rfl) (by decide) (fun K hK => ?_)
 refine goes_ Try.func92 (by kernel_rfl) rfl #[.pointer (some ⟨gf, 7, none⟩), .int .i64 (n : Int)] (by rfl) rfl rfl (by (try simp only [List.map_toArray, List.map_cons, List.map_nil]); rfl) ?_
 refine (take_short gf 7 n at0 cap (some ad) b _ ((blk_cell F3.out 7).trans rfl) ((blk_cell F3.out 8).trans rfl) HAT.out HL2.out HNS.out HNB.out).mono ?_
 rintro e w4 ⟨rfl, hb⟩
 refine ⟨_, rfl, ?_⟩
 have F4 := Aside0.mk (blk_below F3.out hb)
 have R4 := Aside0.mk (blk_below R3.out hb)
 have D4 := Aside0.mk (grown_step D3.out hb)
 have I4 := Aside0.mk ((hb.cell (World.block_lt_of_cell? _ _ I3.out)).trans I3.out)
 clear hb
 refine hK.out _ _ ⟨(blk_cell F4.out 6).trans rfl, I4.out⟩ (fun hHeld => ?_)
 clear hK K
 refine norm_ (a' := ?_) ?_ ?_
 rotate_left
 ·show Act.put _ (some 27) _ = _
  simp only [Act.put, List.setIfInBounds_toArray, List.set_cons_zero, List.set_cons_succ, i64_w, i32_w]
  rfl
 refine pure_ (i := 11) (N := some 16) (v := ?_) (a' := ?_) #[tt_,tt_,tt_,tt_,tt_,tt_,tt_,tt_,tt_,tt_,tt_,tt_,ff_,ff_,ff_,ff_] rfl rfl (by kernel_rfl) (fun _ _ _ h => h) (Or.inl ⟨by rfl, ?_⟩) ?_ ?_
 rotate_left
 ·intro w'
  go_simp
  with_reducible rfl
 rotate_left
 ·simp only [Act.put, List.setIfInBounds_toArray, List.set_cons_zero, List.set_cons_succ, i64_w, i32_w]
  rfl
 refine pure_ (i := 12) (N := some 28) (v := ?_) (a' := ?_) #[tt_,tt_,tt_,tt_,tt_,tt_,tt_,tt_,tt_,tt_,tt_,tt_,tt_,ff_,ff_,ff_] rfl rfl (by kernel_rfl) (fun _ _ _ h => h) (Or.inl ⟨by rfl, ?_⟩) ?_ ?_
 rotate_left
 ·intro w'
  go_simp
  with_reducible rfl
 rotate_left
 ·simp only [Act.put, List.setIfInBounds_toArray, List.set_cons_zero, List.set_cons_succ, i64_w, i32_w]
  rfl
 refine pure_ (i := 13) (N := some 29) (v := ?_) (a' := ?_) #[tt_,tt_,tt_,tt_,tt_,tt_,tt_,tt_,tt_,tt_,tt_,tt_,tt_,tt_,ff_,ff_] rfl rfl (by kernel_rfl) (fun _ _ _ h => h) (Or.inl ⟨by rfl, ?_⟩) ?_ ?_
 rotate_left
 ·intro w'
  go_simp
  with_reducible rfl
 rotate_left
 ·simp only [Act.put, List.setIfInBounds_toArray, List.set_cons_zero, List.set_cons_succ, i64_w, i32_w]
  rfl
 refine pure_ (i := 14) (N := some 8) (v := ?_) (a' := ?_) #[tt_,tt_,tt_,tt_,tt_,tt_,tt_,tt_,tt_,tt_,tt_,tt_,tt_,tt_,tt_,ff_] rfl rfl (by kernel_rfl) (fun _ _ _ h => h) (Or.inl ⟨by rfl, ?_⟩) ?_ ?_
 rotate_left
 ·intro w'
  go_simp
  with_reducible rfl
 rotate_left
 ·simp only [Act.put, List.setIfInBounds_toArray, List.set_cons_zero, List.set_cons_succ, i64_w, i32_w]
  rfl
 refine pure_ (i := 15) (N := some 9) (v := ?_) (a' := ?_) #[tt_,tt_,tt_,tt_,tt_,tt_,tt_,tt_,tt_,tt_,tt_,tt_,tt_,tt_,tt_,tt_] rfl rfl (by kernel_rfl) (fun _ _ _ h => h) (Or.inl ⟨by rfl, ?_⟩) ?_ ?_
 rotate_left
 ·intro w'
  go_simp
  with_reducible rfl
 rotate_left
 ·simp only [Act.put, List.setIfInBounds_toArray, List.set_cons_zero, List.set_cons_succ, i64_w, i32_w]
  rfl
 refine done_ (by kernel_rfl) ?_
 have c7 : Aside0 (w4.cell? ⟨gf, 7, none⟩ = some (.slice (some ad) b.length cap)) := ⟨(blk_cell F4.out 7).trans rfl⟩
 have c8 : Aside0 (w4.cell? ⟨gf, 7 + 1, none⟩ = some (.int .i64 (at0 : Int))) := ⟨(blk_cell F4.out 8).trans rfl⟩
 by_cases h4 : b.length < at0 + 4
 ·have H4S := Aside0.mk h4
  clear h4
  go_wp2_with (go_at_call 92; with_reducible refine (take4_short gf 7 at0 cap (some ad) b _ ?h1 ?h2 HAT.out HL2.out H4S.out).mono ?_; (case h1 => exact c7.out); (case h2 => exact c8.out); rintro e w5 ⟨rfl, hb⟩; have R5 := Aside0.mk (blk_below R4.out hb); have D5 := Aside0.mk (grown_step D4.out hb); clear hb; have o0 := (blk_cell R5.out 0).trans rfl; have o1 := (blk_cell R5.out 1).trans rfl; have o2 := (blk_cell R5.out 2).trans rfl; have fo0 := blk_frozen R5.out 0; have fo1 := blk_frozen R5.out 1; have fo2 := blk_frozen R5.out 2)
  obtain ⟨wz, hwz⟩ : ∃ wz, wz = ((w5.setCell ⟨gR, 0, none⟩ (.int .i64 0)).setCell ⟨gR, 1, none⟩ (.int .i64 0)).setCell ⟨gR, 2, none⟩ (.slice none 0 0) := ⟨_, rfl⟩
  rw [← hwz]
  obtain ⟨hGz, hstz, hblz⟩ := put3 R5.out hwz
  refine bodyPost_ret (results_ct rfl _ _ gR 31 #[.int .i64 0, .int .i64 0, .slice none 0 0] (0, 0) _ rfl hGz Try.underlying31 rfl (by kernel_rfl)) rfl ?_
  refine ⟨?_, ?_⟩
  ·rfl
  ·have hbz := hblz w.heap.size GR.out
   exact ⟨hbz.os.trans D5.out.os, hbz.tape.trans D5.out.tape, hbz.output.trans D5.out.output, Nat.le_trans D5.out.size hbz.size, fun k hk hne => (hbz.block k hk).trans (D5.out.block k hk hne)⟩
 ·have H4L : Aside0 (at0 + 4 ≤ b.length) := ⟨by omega⟩
  clear h4
  go_wp2_with (go_at_call 92; with_reducible refine (take4 gf 7 at0 cap ad b w0 _ HC.out ?h1 ?h2 ?h3 HCAP.out HL2.out H4L.out).mono ?_; (case h1 => exact c7.out); (case h2 => exact c8.out); (case h3 => exact blk_frozen F4.out 8); rintro e w5 ⟨A2, k5, rfl, hC5, hw5⟩; have X5 := Aside0.mk (takeW F4.out hw5); have D5 : Aside0 (w.grownBy w5 (some gf)) := ⟨by rw [hw5]; exact gset (gdrewN D4.out _) _ _⟩; have R5 := Aside0.mk ((X5.out.2.1 gR (blk_ne R4.out F4.out (by decide))).trans R4.out); clear hC5 hw5; have o0 := (blk_cell R5.out 0).trans rfl; have o1 := (blk_cell R5.out 1).trans rfl; have o2 := (blk_cell R5.out 2).trans rfl; have fo0 := blk_frozen R5.out 0; have fo1 := blk_frozen R5.out 1; have fo2 := blk_frozen R5.out 2)
  obtain ⟨wz, hwz⟩ : ∃ wz, wz = ((w5.setCell ⟨gR, 0, none⟩ (.int .i64 0)).setCell ⟨gR, 1, none⟩ (.int .i64 0)).setCell ⟨gR, 2, none⟩ (.slice none 0 0) := ⟨_, rfl⟩
  rw [← hwz]
  obtain ⟨hGz, hstz, hblz⟩ := put3 R5.out hwz
  refine bodyPost_ret (results_ct rfl _ _ gR 31 #[.int .i64 0, .int .i64 0, .slice none 0 0] (0, 0) _ rfl hGz Try.underlying31 rfl (by kernel_rfl)) rfl ?_
  refine ⟨?_, ?_⟩
  ·rfl
  ·have hbz := hblz w.heap.size GR.out
   exact ⟨hbz.os.trans D5.out.os, hbz.tape.trans D5.out.tape, hbz.output.trans D5.out.output, Nat.le_trans D5.out.size hbz.size, fun k hk hne => (hbz.block k hk).trans (D5.out.block k hk hne)⟩
end Go.Proofs.Ytbbebhdcfopmmaa.A
end
section
set_option linter.unusedVariables false
set_option linter.unusedSimpArgs false
namespace Go.Proofs.Ytbbebhdcfopmmaa.A
open Go.RowKit Go.Proofs.YtbbebhdcfopmmaaW.PrintWords Go.Proofs.YtbbebhdcfopmmaaW.PrintLast Go.Proofs.YtbbebhdcfopmmaaW.PrintMore Go.Proofs.Ytbbebhdcfopmmaa.PCodecNames

/-- how long part i is said to be -/
def partLen (b : List Nat) (i : Nat) : Nat := numL 0 (subN b (12 + 4 * i) 4)
/-- where part i begins -/
def partPos (b : List Nat) : Nat → Nat
 | 0 => 16 + hN b
 | i + 1 => partPos b i + partLen b i + 4
def pX0 (b : List Nat) (i : Nat) : Nat := tX (hW b) (hS b) (i / hPl b)
def pY0 (b : List Nat) (i : Nat) : Nat := tY (hW b) (hS b) (i / hPl b)
def pX1 (b : List Nat) (i : Nat) : Nat := min (pX0 b i + hS b) (hW b)
def pY1 (b : List Nat) (i : Nat) : Nat := min (pY0 b i + hS b) (hH b)
def pDw (b : List Nat) (i : Nat) : Nat := pX1 b i - pX0 b i
def pDh (b : List Nat) (i : Nat) : Nat := pY1 b i - pY0 b i
def partDec (b : List Nat) (i : Nat) : Got (List Nat) := dec (subN b (partPos b i) (partLen b i)) (pDw b i * pDh b i)
def partE (b : List Nat) (i : Nat) : Nat :=
 if b.length < partPos b i + partLen b i + 4 then 182
 else if numL 0 (subN b (partPos b i + partLen b i) 4) ≠ crc (subN b (partPos b i) (partLen b i)) then 183
 else match partDec b i with
  | .err _ => 181
  | .ok _ => 0
def partV (b : List Nat) (i : Nat) : List Nat :=
 match partDec b i with
 | .err _ => []
 | .ok rs => planeN rs (pDw b i)
/-- the planes when i parts are laid -/
def laid (b : List Nat) : Nat → List (List Nat)
 | 0 => List.replicate (hPl b) (List.replicate (hW b * hH b) 0)
 | i + 1 => (laid b i).set (i % hPl b) (pasteN ((laid b i).getD (i % hPl b) []) (partV b i) (hW b) (pDw b i) (pDh b i) (pX0 b i) (pY0 b i))
/-- the first error among parts from i on -/
def partsE (b : List Nat) : Nat → Nat → Nat
 | 0, _ => 0
 | d + 1, i => if partE b i = 0 then partsE b d (i + 1) else partE b i
def decodeE (b : List Nat) : Nat :=
 if openE b ≠ 0 then openE b else if partsE b (hK b) 0 ≠ 0 then partsE b (hK b) 0 else if partPos b (hK b) ≠ b.length then 181 else 0
end Go.Proofs.Ytbbebhdcfopmmaa.A
end
section
set_option linter.unusedVariables false
set_option linter.unusedSimpArgs false
namespace Go.Proofs.Ytbbebhdcfopmmaa.A
open Go.RowKit Go.Proofs.YtbbebhdcfopmmaaW.PrintWords Go.Proofs.YtbbebhdcfopmmaaW.PrintLast Go.Proofs.YtbbebhdcfopmmaaW.PrintMore Go.Proofs.Ytbbebhdcfopmmaa.PCodecNames

set_option maxHeartbeats 4000000 in
set_option maxRecDepth 100000 in
theorem Decode_bad (A : Option Addr) (cap : Nat) (b : List Nat) (w : World) (hC : (nat .u8).C w A b.length b) (hcap : b.length ≤ cap) (h8 : ∀ i, gt b i < 256) (hl : b.length < 4611686018427387904) (he : openE b ≠ 0) :
    Calls Try.prog 36 #[.slice A b.length cap] w fun e w1 => e = .returned (.tuple #[.agg #[.int .i64 0, .slice none 0 0], .int .i64 ((openE b : Nat) : Int)]) ∧ Below w.heap.size w w1 := by
 have hu121 := Try.underlying121
 have hu60 := Try.underlying60
 have hu105 := Try.underlying105
 obtain ⟨z, hz⟩ : ∃ z, z = openE b := ⟨_, rfl⟩
 have t1 : ((z : Int) != 0) = true := by rw [bne_iff_ne]; omega
 have t2 : (z != 0) = true := by rw [bne_iff_ne]; omega
 have HNE : Aside0 (openE b ≠ 0) := ⟨he⟩
 have HZ := Aside0.mk hz
 have HC := Aside0.mk hC
 have HCAP := Aside0.mk hcap
 have H8 := Aside0.mk h8
 have HL := Aside0.mk hl
 rw [← hz]
 clear hz hC hcap h8 hl he
 go_enter Try.func36, Try.ntmps36
 go_wp2_with (first | ((with_reducible refine gate_dst (N := 2) rfl ?_); refine box_event ?hg (N := 2) ?hd (cs := #[.int .i64 0, .slice none 0 0]) (t := 47) ?hr ?_; (case hd => rfl); (case hg => rfl); (case hr => first | (go_simp; done) | (go_simp; rfl)); intro gR hg_ w1 hm_ hb_; have R1 := Aside0.mk (hm_); have B1 := Aside0.mk (hb_); have GR := Aside0.mk (show w.heap.size ≤ gR by rw [hg_]; exact Nat.le_refl _); clear hm_ hb_ hg_) | (go_at_call 75; with_reducible refine (opened_calls A cap b _ ?h1 HCAP.out H8.out HL.out).mono ?_; (case h1 => exact Kd.C_below HC.out B1.out); unfold OpenPost; rintro e w3 ⟨hb, hor⟩; have he := (hor.resolve_right (fun h => absurd h.1 HNE.out)).2; rw [← HZ.out] at he; subst he; have R3 := Aside0.mk (blk_below R1.out hb); have B3 := Aside0.mk (below_step B1.out hb); clear hb hor) | ((with_reducible refine gate_dst (N := 4) rfl ?_); refine box_event ?hg (N := 4) ?hd (cs := #[.int .i64 0, .int .i64 0, .int .i64 0, .int .i64 0, .int .i64 0, .pointer none, .slice none 0 0, .slice none 0 0, .int .i64 0]) (t := 121) ?hr ?_; (case hd => rfl); (case hg => rfl); (case hr => first | (go_simp; done) | (go_simp; rfl)); intro gf hg_ w4 hm_ hb_; have R4 := Aside0.mk (blk_below R3.out hb_); have F4 := Aside0.mk (hm_); have B4 := Aside0.mk (below_step B3.out hb_); have GF := Aside0.mk (show w.heap.size ≤ gf by rw [hg_]; exact below_size B3.out); have NRF := Aside0.mk (blk_ne R4.out F4.out (by decide)); have p0 := (blk_cell F4.out 0).trans rfl; have p1 := (blk_cell F4.out 1).trans rfl; have p2 := (blk_cell F4.out 2).trans rfl; have p3 := (blk_cell F4.out 3).trans rfl; have p4 := (blk_cell F4.out 4).trans rfl; have p5 := (blk_cell F4.out 5).trans rfl; have p6 := (blk_cell F4.out 6).trans rfl; have p7 := (blk_cell F4.out 7).trans rfl; have p8 := (blk_cell F4.out 8).trans rfl; have fp0 := blk_frozen F4.out 0; have fp1 := blk_frozen F4.out 1; have fp2 := blk_frozen F4.out 2; have fp3 := blk_frozen F4.out 3; have fp4 := blk_frozen F4.out 4; have fp5 := blk_frozen F4.out 5; have fp6 := blk_frozen F4.out 6; have fp7 := blk_frozen F4.out 7; have fp8 := blk_frozen F4.out 8; have X5 := Aside0.mk (put9 (x0 := .int .i64 0) (x1 := .int .i64 0) (x2 := .int .i64 0) (x3 := .int .i64 0) (x4 := .int .i64 0) (x5 := .pointer none) (x6 := .slice none 0 0) (x7 := .slice none 0 0) (x8 := .int .i64 0) F4.out rfl); have R5 := Aside0.mk ((X5.out.2.1 gR NRF.out).trans R4.out); have B5 := Aside0.mk (B4.out.trans (X5.out.2.2 _ GF.out)); have o0 := (blk_cell R5.out 0).trans rfl; have o1 := (blk_cell R5.out 1).trans rfl; have fo0 := blk_frozen R5.out 0; have fo1 := blk_frozen R5.out 1; clear hm_ hb_ hg_))
 obtain ⟨w6, hw6⟩ : ∃ w6, w6 = (((((((((w4.setCell ⟨gf, 0, none⟩ (.int .i64 0)).setCell ⟨gf, 1, none⟩ (.int .i64 0)).setCell ⟨gf, 2, none⟩ (.int .i64 0)).setCell ⟨gf, 3, none⟩ (.int .i64 0)).setCell ⟨gf, 4, none⟩ (.int .i64 0)).setCell ⟨gf, 5, none⟩ (.pointer none)).setCell ⟨gf, 6, none⟩ (.slice none 0 0)).setCell ⟨gf, 7, none⟩ (.slice none 0 0)).setCell ⟨gf, 8, none⟩ (.int .i64 0)) := ⟨_, rfl⟩
 rw [← hw6] at R5 B5 ⊢
 obtain ⟨wz, hwz⟩ : ∃ wz, wz = (w6.setCell ⟨gR, 0, none⟩ (.int .i64 0)).setCell ⟨gR, 1, none⟩ (.slice none 0 0) := ⟨_, rfl⟩
 rw [← hwz]
 obtain ⟨hGz, hstz, hblz⟩ := put2 R5.out hwz
 refine bodyPost_ret (results_ct rfl _ _ gR 47 #[.int .i64 0, .slice none 0 0] (0, 0) _ rfl hGz Try.underlying47 rfl (by kernel_rfl)) rfl ?_
 refine ⟨?_, B5.out.trans (hblz _ GR.out)⟩
 rfl
end Go.Proofs.Ytbbebhdcfopmmaa.A
end
section
set_option linter.unusedVariables false
set_option linter.unusedSimpArgs false
namespace Go.Proofs.Ytbbebhdcfopmmaa.A
open Go.RowKit Go.Proofs.YtbbebhdcfopmmaaW.PrintWords Go.Proofs.YtbbebhdcfopmmaaW.PrintLast Go.Proofs.YtbbebhdcfopmmaaW.PrintMore Go.Proofs.Ytbbebhdcfopmmaa.PCodecNames

theorem open_zero {b : List Nat} (h : openE b = 0) : b.length ≤ 4194304 ∧ 12 ≤ b.length ∧ hMagic b = true ∧ hMay b = true ∧ 16 + hN b ≤ b.length ∧ numL 0 (subN b (12 + hN b) 4) = crc (b.take (12 + hN b)) := by
 unfold openE at h
 by_cases h1 : 4194304 < b.length
 ·rw [if_pos h1] at h; exact absurd h (by decide)
 rw [if_neg h1] at h
 by_cases h2 : b.length < 12
 ·rw [if_pos h2] at h; exact absurd h (by decide)
 rw [if_neg h2] at h
 by_cases h3 : hMagic b = true ∧ hMay b = true
 ·rw [if_neg (fun hh => hh h3)] at h
  by_cases h4 : b.length < 12 + hN b
  ·rw [if_pos h4] at h; exact absurd h (by decide)
  rw [if_neg h4] at h
  by_cases h5 : b.length < 16 + hN b
  ·rw [if_pos h5] at h; exact absurd h (by decide)
  rw [if_neg h5] at h
  by_cases h6 : numL 0 (subN b (12 + hN b) 4) = crc (b.take (12 + hN b))
  ·exact ⟨by omega, by omega, h3.1, h3.2, by omega, h6⟩
  ·rw [if_pos h6] at h; exact absurd h (by decide)
 ·rw [if_pos h3] at h; exact absurd h (by decide)
theorem laid_len (b : List Nat) (i : Nat) : (laid b i).length = hPl b := by
 induction i with
 | zero => simp [laid]
 | succ i ih => rw [laid, List.length_set, ih]
theorem laid_pl {b : List Nat} (i : Nat) : ∀ k, k < hPl b → ((laid b i).getD k []).length = hW b * hH b := by
 induction i with
 | zero =>
  intro k hk
  unfold laid
  rw [List.getD_eq_getElem?_getD, List.getElem?_replicate, if_pos hk, Option.getD_some, List.length_replicate]
 | succ i ih =>
  intro k hk
  unfold laid
  rw [List.getD_eq_getElem?_getD, List.getElem?_set]
  have hl := laid_len b i
  by_cases h1 : i % hPl b = k
  ·rw [if_pos h1, if_pos (by rw [hl, h1]; exact hk), Option.getD_some, pasteN_length]
   exact ih _ (by rw [h1]; exact hk)
  ·rw [if_neg h1, ← List.getD_eq_getElem?_getD]
   exact ih k hk
theorem gt_idxTo {b : List Nat} {n i : Nat} (h : i < n) : gt (idxTo b n) i = partLen b i := by
 unfold gt idxTo partLen
 rw [List.getD_eq_getElem?_getD, List.getElem?_map, List.getElem?_range h, Option.map_some, Option.getD_some]
/-- what a head that may be says of the tiles -/
theorem may_tile {b : List Nat} {i : Nat} (h : hMay b = true) (hi : i < hK b) :
    pX0 b i < pX1 b i ∧ pX1 b i ≤ hW b ∧ pY0 b i < pY1 b i ∧ pY1 b i ≤ hH b ∧ i / hPl b < tilesN (hW b) (hH b) (hS b) := by
 obtain ⟨q1, q2, q3, q4, q5, q6, q7, q8, q9, q10⟩ := mayB_true h
 have ht : i / hPl b < tilesN (hW b) (hH b) (hS b) := Nat.div_lt_of_lt_mul (by unfold hK at hi; rw [Nat.mul_comm]; exact hi)
 have hx : pX0 b i < hW b := tX_lt _ (by omega) (by omega)
 have hy : pY0 b i < hH b := tY_lt (by omega) (by omega) ht
 unfold pX1 pY1
 refine ⟨?_, Nat.min_le_right _ _, ?_, Nat.min_le_right _ _, ht⟩ <;> omega
end Go.Proofs.Ytbbebhdcfopmmaa.A
end
section
set_option linter.unusedVariables false
set_option linter.unusedSimpArgs false
namespace Go.Proofs.Ytbbebhdcfopmmaa.A
open Go.RowKit Go.Proofs.YtbbebhdcfopmmaaW.PrintWords Go.Proofs.YtbbebhdcfopmmaaW.PrintLast Go.Proofs.YtbbebhdcfopmmaaW.PrintMore Go.Proofs.Ytbbebhdcfopmmaa.PCodecNames

/-- a new picture of noughts -/
theorem New_zero {sp pl W H : Nat} {ss : List (List Nat)} {w : World} (hn : 1 ≤ pl) (hn4 : pl ≤ 4) (hs : sizeB (W : Int) (H : Int) = true) (hsp : spaceE (sp : Int) pl = 0) (hss : List.replicate pl (List.replicate (W * H) 0) = ss) :
    Calls Try.prog 76 #[.int .i64 (sp : Int), .int .i64 (pl : Int), .int .i64 (W : Int), .int .i64 (H : Int), .int .u32 0] w fun e w' => ∃ Ap cp hs, e = .returned (.tuple #[.agg #[.int .i64 (sp : Int), .slice Ap pl cp], .int .i64 0]) ∧ PicOwn w.heap.size w' (.slice Ap pl cp) W H hs ss ∧ Below w.heap.size w w' := by
 refine Calls.mono (New_main (sp : Int) pl 0 W H w hn hn4 hs) ?_
 rw [hsp, hss]
 rintro e w' ⟨⟨vp, rfl, hpo, _⟩, hb⟩
 obtain ⟨hds, hP⟩ := hpo rfl
 obtain ⟨Ap, cp, hvp⟩ := Kd.R_slice hP.row
 have hlen : (hds.map fun x => (W, H, x)).length = pl := by rw [List.length_map, hP.len, ← hss, List.length_replicate]
 rw [hlen] at hvp
 subst hvp
 exact ⟨Ap, cp, hds, rfl, hP, hb⟩
theorem PicOwn.lower {B B' : Nat} {W : World} {vp : Value} {w h : Nat} {hs : List Hd} {ss : List (List Nat)} (H : PicOwn B W vp w h hs ss) (hb : B' ≤ B) : PicOwn B' W vp w h hs ss :=
 ⟨Kd.R_lower H.row hb, H.len, fun k hk => Kd.R_lower (H.pls k hk) hb, H.ap⟩
/-- another list in the row of plane j -/
theorem PicOwn.write {B : Nat} {W W1 : World} {vp : Value} {w h : Nat} {hs : List Hd} {ss : List (List Nat)} (H : PicOwn B W vp w h hs ss) {j : Nat} (hj : j < hs.length) {zs : List Nat} {ok : Nat → Prop} (hz : (nat .u32).R 24 W1 B ok (hs[j]).v zs) (hk : Kept W W1 (fun k => (hs[j]).v.ownBlock = some k)) :
    PicOwn B W1 vp w h hs (ss.set j zs) := by
 refine ⟨?_, by rw [List.length_set]; exact H.len, fun k hk' => ?_, H.ap⟩
 ·refine pk_move H.row (fun k hko => hk.2 k (H.row_lt hko).2.1 (fun e => ?_))
  obtain ⟨_, _, c1, h1⟩ := H.row_lt hko
  obtain ⟨_, _, c2, h2⟩ := H.pl_lt hj e
  rw [h1] at h2
  injection h2 with h2
  injection h2 with _ h3
  exact absurd h3 (by decide)
 ·rw [List.getD_eq_getElem?_getD, List.getElem?_set]
  by_cases e : j = k
  ·subst e
   rw [if_pos rfl, if_pos (by rw [← H.len]; exact hj), Option.getD_some]
   exact nat_self hz
  ·rw [if_neg e, ← List.getD_eq_getElem?_getD]
   exact nat_move (H.pls k hk') (fun i hi => hk.2 i (H.pl_lt hk' hi).2.1 (fun e2 => H.ap j k hj hk' e i e2 hi))
/-- a part pasted into plane j of a picture of one's own -/
theorem paste_pic {w0 w : World} {vp : Value} {Wd Ht : Nat} {hs : List Hd} {ss : List (List Nat)} (H : PicOwn w0.heap.size w vp Wd Ht hs ss) (hB : Below w0.heap.size w0 w) {j : Nat} (hj : j < hs.length) {A2 : Option Addr} {c2 B2 : Nat} {zs : List Nat} {dw dh x y : Nat}
    (hz : (nat .u32).R 24 w B2 (fun _ => True) (.slice A2 zs.length c2) zs) (hlt : ∀ k, (hs[j]).v.ownBlock = some k → k < B2) (hps : (ss.getD j []).length = Wd * Ht) (hqs : zs.length = dw * dh) (hpw : 0 < Wd) (hpw2 : Wd ≤ 1024) (hph : Ht ≤ 1024) (hqw : dw ≤ 1024) (hqh : dh ≤ 1024) (hx : x ≤ 1048576) (hy : y ≤ 1048576) :
    Calls Try.prog 78 #[.agg #[.int .i64 (Wd : Int), .int .i64 (Ht : Int), (hs[j]).v], .agg #[.int .i64 (dw : Int), .int .i64 (dh : Int), .slice A2 zs.length c2], .int .i64 (x : Int), .int .i64 (y : Int)] w fun e w' => e = .returned (.tuple #[]) ∧ PicOwn w0.heap.size w' vp Wd Ht hs (ss.set j (pasteN (ss.getD j []) zs Wd dw dh (x : Int) (y : Int))) ∧ Below w0.heap.size w0 w' ∧ Kept w w' (fun k => (hs[j]).v.ownBlock = some k) := by
 have hf := paste_f (ps := ss.getD j []) (qs := zs) (x := (x : Int)) (y := (y : Int)) (fl dw dh) (Nat.le_refl _) hpw hpw2 hph hqw hqh hps hqs (by omega) (by omega) (by omega) (by omega)
 obtain ⟨e1, hc, hC⟩ := Kd.R_reads' hz
 have h := codec_paste.calls (fl dw dh) (Wd : Int) (Ht : Int) (fun k => (hs[j]).v.ownBlock = some k) (hs[j]).v (ints (ss.getD j [])) (dw : Int) (dh : Int) A2 c2 (ints zs) (x : Int) (y : Int) _ w0 w hB (R_ints (H.pls j hj)) (fun W_ hk => by
  have hz2 : (nat .u32).R 24 W_ B2 (fun _ => True) (.slice A2 zs.length c2) zs := Kd.R_of_own (own_move (Kd.own_of_R hz) (fun k hk2 => by
   have hb := (Kd.R_bound (nat_self hz)).1 k hk2
   exact hk.2 k hb.2.2.1 (fun e => by have := hlt k e; have := hb.2.1; omega))) (fun _ _ => trivial)
  rw [ints_length]
  exact C_ints (Kd.R_reads' hz2).2.2) (by rw [ints_length]; exact hc) hf
 rw [ints_length] at h
 refine h.mono ?_
 rintro e w' ⟨rfl, hR, hb, hk⟩
 exact ⟨rfl, H.write hj (R_nats hR) hk, hb, hk⟩

/-- how things stand in Decode's loop -/
structure DI (w : World) (gR gf gp gT sp pl Wd Ht S : Nat) (vx : Value) (ix : List Nat) (vb vp : Value) (hs : List Hd) (at1 : Nat) (ss : List (List Nat)) (W : World) : Prop where
 hR : W.heap[gR]? = some (.cells #[.int .i64 0, .slice none 0 0] 47 (0, 0))
 hF : W.heap[gf]? = some (.cells #[.int .i64 (sp : Int), .int .i64 (pl : Int), .int .i64 (Wd : Int), .int .i64 (Ht : Int), .int .i64 (S : Int), .pointer (some ⟨gT, 0, none⟩), vx, vb, .int .i64 (at1 : Int)] 121 (0, 0))
 hP : W.heap[gp]? = some (.cells #[.int .i64 (sp : Int), vp] 47 (0, 0))
 hT : TB W gT
 hI : (nat .i64).R 3 W w.heap.size (fun _ => True) vx ix
 hO : PicOwn w.heap.size W vp Wd Ht hs ss
 hB : Below w.heap.size w W
section
variable {w : World} {gR gf gp gT sp pl Wd Ht S : Nat} {vx : Value} {ix : List Nat} {vb vp : Value} {hs : List Hd} {at1 at2 : Nat} {ss : List (List Nat)} {W W1 : World}
theorem DI.below (h : DI w gR gf gp gT sp pl Wd Ht S vx ix vb vp hs at1 ss W) (hb : Below W.heap.size W W1) : DI w gR gf gp gT sp pl Wd Ht S vx ix vb vp hs at1 ss W1 :=
 ⟨blk_below h.hR hb, blk_below h.hF hb, blk_below h.hP hb, h.hT.below hb, Kd.R_below h.hI hb, h.hO.below hb, below_step h.hB hb⟩
/-- where nothing but gf's cells turned -/
theorem DI.part (h : DI w gR gf gp gT sp pl Wd Ht S vx ix vb vp hs at1 ss W) (hg : W.grownBy W1 (some gf)) (hgf : w.heap.size ≤ gf) (hF : W1.heap[gf]? = some (.cells #[.int .i64 (sp : Int), .int .i64 (pl : Int), .int .i64 (Wd : Int), .int .i64 (Ht : Int), .int .i64 (S : Int), .pointer (some ⟨gT, 0, none⟩), vx, vb, .int .i64 (at2 : Int)] 121 (0, 0))) : DI w gR gf gp gT sp pl Wd Ht S vx ix vb vp hs at2 ss W1 := by
 have hn : ∀ k (hk : k < W.heap.size), k ≠ gf → W1.heap[k]? = W.heap[k]? := fun k hk e => hg.block k hk (fun e2 => e (by injection e2))
 have hb : ∀ {g : Nat} {cs : Array Value} {t : TypeId}, W.heap[g]? = some (.cells cs t (0, 0)) → t ≠ 121 → W1.heap[g]? = some (.cells cs t (0, 0)) := fun {g cs t} hg2 ht => (hn g (blk_lt hg2) (blk_ne hg2 h.hF ht)).trans hg2
 obtain ⟨ct, hct⟩ := h.hT.block
 refine ⟨hb h.hR (by decide), hF, hb h.hP (by decide), h.hT.move ((hb hct (by decide)).trans hct.symm), ?_, ?_, ?_⟩
 ·exact Kd.R_mono (Kd.R_move (Kd.R_types (Kd.R_bound h.hI) h.hF (by decide)) (fun k hk => hn k hk.1.2.2.1 hk.2)) (fun _ _ => trivial)
 ·exact h.hO.move (fun k hk => by obtain ⟨_, _, cs, hc⟩ := h.hO.row_lt hk; exact (hb hc (by decide)).trans hc.symm) (fun i hi k hk => by obtain ⟨_, _, cs, hc⟩ := h.hO.pl_lt hi hk; exact (hb hc (by decide)).trans hc.symm)
 ·exact ⟨hg.os.trans h.hB.os, hg.tape.trans h.hB.tape, hg.output.trans h.hB.output, Nat.le_trans h.hB.size hg.size, fun k hk => (hg.block k (Nat.lt_of_lt_of_le hk h.hB.size) (fun e => by injection e with e; omega)).trans (h.hB.block k hk)⟩
/-- behind a paste -/
theorem DI.paste (h : DI w gR gf gp gT sp pl Wd Ht S vx ix vb vp hs at1 ss W) {j : Nat} (hj : j < hs.length) {ss' : List (List Nat)} (hO : PicOwn w.heap.size W1 vp Wd Ht hs ss') (hB : Below w.heap.size w W1) (hk : Kept W W1 (fun k => (hs[j]).v.ownBlock = some k)) : DI w gR gf gp gT sp pl Wd Ht S vx ix vb vp hs at1 ss' W1 := by
 have hb : ∀ {g : Nat} {cs : Array Value} {t : TypeId}, W.heap[g]? = some (.cells cs t (0, 0)) → t ≠ 24 → W1.heap[g]? = some (.cells cs t (0, 0)) := fun {g cs t} hg ht => (hk.2 g (blk_lt hg) (fun e => h.hO.ne_pl hg ht j hj e)).trans hg
 obtain ⟨ct, hct⟩ := h.hT.block
 refine ⟨hb h.hR (by decide), hb h.hF (by decide), hb h.hP (by decide), h.hT.move ((hb hct (by decide)).trans hct.symm), ?_, hO, hB⟩
 exact Kd.R_mono (Kd.R_move (Kd.R_bound h.hI) (fun k hkk => by
  obtain ⟨_, _, hlt, q, hq, cells, hc⟩ := hkk
  have hq3 : q = 3 := by simpa [nat, Kd.scalar] using hq
  subst hq3
  exact (hb hc (by decide)).trans hc.symm)) (fun _ _ => trivial)
end
end Go.Proofs.Ytbbebhdcfopmmaa.A
end
section
set_option linter.unusedVariables false
set_option linter.unusedSimpArgs false
namespace Go.Proofs.Ytbbebhdcfopmmaa.A
open Go.RowKit Go.Proofs.YtbbebhdcfopmmaaW.PrintWords Go.Proofs.YtbbebhdcfopmmaaW.PrintLast Go.Proofs.YtbbebhdcfopmmaaW.PrintMore Go.Proofs.Ytbbebhdcfopmmaa.PCodecNames

theorem decA_err {b : List Nat} : ∀ (n p s c : Nat) (acc : List Nat) (k : Nat), decA b n p s c acc = .err k → k = 170 ∨ k = 171 := by
 intro n
 induction n with
 | zero => intro p s c acc k h; cases h
 | succ n ih =>
  intro p s c acc k h
  unfold decA at h
  rcases hN : numR b p (kOf s c) with ⟨z, p'⟩ | e
  ·rw [hN] at h; exact ih _ _ _ _ _ h
  ·rw [hN] at h; injection h with h; subst h; exact numR_err hN
theorem dec_err {b : List Nat} {n k : Nat} (h : dec b n = .err k) : k ≠ 0 := by
 unfold dec at h
 rcases hA : decA b n 0 16 1 [] with ⟨l, p⟩ | e
 ·rw [hA] at h
  unfold decE at h
  split at h
  ·rename_i h2; cases h2
  ·split at h
   ·cases h
   ·injection h with h; omega
 ·rw [hA] at h
  injection h with h
  have := decA_err _ _ _ _ _ _ hA
  omega
theorem partE_zero {b : List Nat} {i : Nat} (h : partE b i = 0) : partPos b i + partLen b i + 4 ≤ b.length ∧ numL 0 (subN b (partPos b i + partLen b i) 4) = crc (subN b (partPos b i) (partLen b i)) ∧ ∃ rs, partDec b i = .ok rs := by
 unfold partE at h
 by_cases h1 : b.length < partPos b i + partLen b i + 4
 ·rw [if_pos h1] at h; exact absurd h (by decide)
 rw [if_neg h1] at h
 by_cases h2 : numL 0 (subN b (partPos b i + partLen b i) 4) = crc (subN b (partPos b i) (partLen b i))
 ·rw [if_neg (fun hh => hh h2)] at h
  rcases hd : partDec b i with rs | e
  ·exact ⟨by omega, h2, rs, rfl⟩
  ·rw [hd] at h; exact absurd h (show ¬ ((181 : Nat) = 0) by decide)
 ·rw [if_pos h2] at h; exact absurd h (by decide)
theorem hN_eq (b : List Nat) : hN b = 4 * hK b := by unfold hN hK; rw [Nat.mul_assoc]
theorem partLen_lt {b : List Nat} {i : Nat} (hl : 16 + hN b ≤ b.length) (hi : i < hK b) (h8 : ∀ i, gt b i < 256) : partLen b i < 4294967296 := by
 unfold partLen
 exact numL4_lt (subN_length (by have := hN_eq b; omega)) (subN_lt h8)
/-- a part's sizes -/
theorem part_dims {b : List Nat} {i : Nat} (h : hMay b = true) (hi : i < hK b) : pX1 b i = pX0 b i + pDw b i ∧ pY1 b i = pY0 b i + pDh b i ∧ 0 < pDw b i ∧ 0 < pDh b i ∧ pDw b i ≤ 1024 ∧ pDh b i ≤ 1024 ∧ pDw b i * pDh b i ≤ 65536 ∧ pX1 b i ≤ 1024 ∧ pY1 b i ≤ 1024 := by
 obtain ⟨q1, q2, q3, q4, q5, q6, q7, q8, q9, q10⟩ := mayB_true h
 obtain ⟨a1, a2, a3, a4, a5⟩ := may_tile h hi
 have e1 : pDw b i ≤ hW b := by unfold pDw; omega
 have e2 : pDh b i ≤ hH b := by unfold pDh; omega
 have e3 : pDw b i * pDh b i ≤ hW b * hH b := Nat.mul_le_mul e1 e2
 refine ⟨by unfold pDw; omega, by unfold pDh; omega, by unfold pDw; omega, by unfold pDh; omega, by omega, by omega, by omega, by omega, by omega⟩
section
variable {w : World} {gR gf gp gT sp pl Wd Ht S : Nat} {cv cap i : Nat} {av ad : Addr} {b : List Nat} {vp : Value} {hs : List Hd} {ss : List (List Nat)} {W : World}
theorem DI.idx (h : DI w gR gf gp gT sp pl Wd Ht S (.slice (some av) (hK b) cv) (idxTo b (hK b)) (.slice (some ad) b.length cap) vp hs (partPos b i) ss W) (hi : i < hK b) :
    W.cell? (av.add i) = some (.int .i64 (partLen b i : Int)) ∧ (av.add i).block ≠ gf := by
 have hl : (idxTo b (hK b)).length = hK b := idxTo_length b (hK b)
 obtain ⟨c, h1, h2, h3⟩ := Kd.R_get h.hI 0 (i : Int) (by omega) (by omega)
 refine ⟨?_, by rw [add_block]; exact Kd.own_blk (ad := av) (Kd.R_ne h.hI h.hF (by decide))⟩
 have h4 := gt_idxTo (b := b) hi
 unfold gt at h4
 have h5 : c = [.int .i64 (partLen b i : Int)] := by
  have := h2
  simp only [Int.toNat_natCast] at this
  rw [h4] at this
  exact this
 have h6 := h3 0 (.int .i64 (partLen b i : Int)) (by rw [h5]; rfl)
 simpa [nat, Kd.scalar] using h6
theorem part_good (h : DI w gR gf gp gT sp pl Wd Ht S (.slice (some av) (hK b) cv) (idxTo b (hK b)) (.slice (some ad) b.length cap) vp hs (partPos b i) ss W) (hgf : w.heap.size ≤ gf) (hi : i < hK b) (hC : (nat .u8).C w (some ad) b.length b) (hcap : b.length ≤ cap) (h8 : ∀ i, gt b i < 256) (hl : b.length ≤ 4194304) (hm : hMay b = true) (he : partE b i = 0) :
    Calls Try.prog 77 #[.pointer (some ⟨gf, 0, none⟩), .int .i64 (i : Int), .agg #[.int .i64 (pX0 b i : Int), .int .i64 (pY0 b i : Int), .int .i64 (pX1 b i : Int), .int .i64 (pY1 b i : Int)]] W fun e w1 => ∃ A c, e = .returned (.tuple #[.agg #[.int .i64 (pDw b i : Int), .int .i64 (pDh b i : Int), .slice A (partV b i).length c], .int .i64 0]) ∧ (nat .u32).R 24 w1 W.heap.size (fun _ => True) (.slice A (partV b i).length c) (partV b i) ∧
     DI w gR gf gp gT sp pl Wd Ht S (.slice (some av) (hK b) cv) (idxTo b (hK b)) (.slice (some ad) b.length cap) vp hs (partPos b (i + 1)) ss w1 ∧ W.grownBy w1 (some gf) := by
 obtain ⟨p1, p2, rs, p3⟩ := partE_zero he
 obtain ⟨d1, d2, d3, d4, d5, d6, d7, d8, d9⟩ := part_dims hm hi
 have hi2 : i < (idxTo b (hK b)).length := by rw [idxTo_length]; exact hi
 obtain ⟨x1, x2⟩ := h.idx hi
 have hd1 := dec_one (subN_lt h8) p3
 have hF := h.hF
 rw [← idxTo_length b (hK b)] at hF
 have hV : partV b i = planeN rs (pDw b i) := by unfold partV; rw [p3]
 have := part_ok gf gT i (partLen b i) (partPos b i) (pDw b i) (pDh b i) cap cv (pX0 b i) (pY0 b i) (pX1 b i) (pY1 b i) sp pl Wd Ht S ad av (idxTo b (hK b)) b rs w W hF h.hT hC h.hB hgf x1 x2 hi2 hcap h8 hl p1 d1 d2 (by omega) (by omega) ⟨d3, d4, d5, d6, d7, hd1.1, hd1.2.1⟩ p2 p3
 refine this.mono ?_
 rintro e w1 ⟨v, rfl, hR, hg, hF1⟩
 rw [← hV] at hR
 obtain ⟨A, c, rfl⟩ := Kd.R_slice hR
 rw [idxTo_length] at hF1
 exact ⟨A, c, rfl, hR, h.part hg hgf hF1, hg⟩
theorem part_bad (h : DI w gR gf gp gT sp pl Wd Ht S (.slice (some av) (hK b) cv) (idxTo b (hK b)) (.slice (some ad) b.length cap) vp hs (partPos b i) ss W) (hgf : w.heap.size ≤ gf) (hi : i < hK b) (hC : (nat .u8).C w (some ad) b.length b) (hcap : b.length ≤ cap) (h8 : ∀ i, gt b i < 256) (hl : b.length ≤ 4194304) (hh : 16 + hN b ≤ b.length) (hm : hMay b = true) (hat : partPos b i ≤ b.length) (he : partE b i ≠ 0) :
    Calls Try.prog 77 #[.pointer (some ⟨gf, 0, none⟩), .int .i64 (i : Int), .agg #[.int .i64 (pX0 b i : Int), .int .i64 (pY0 b i : Int), .int .i64 (pX1 b i : Int), .int .i64 (pY1 b i : Int)]] W fun e w1 => e = .returned (.tuple #[.agg #[.int .i64 0, .int .i64 0, .slice none 0 0], .int .i64 (partE b i : Int)]) ∧ Below w.heap.size w w1 ∧ w1.heap[gR]? = some (.cells #[.int .i64 0, .slice none 0 0] 47 (0, 0)) := by
 obtain ⟨d1, d2, d3, d4, d5, d6, d7, d8, d9⟩ := part_dims hm hi
 have hi2 : i < (idxTo b (hK b)).length := by rw [idxTo_length]; exact hi
 obtain ⟨x1, x2⟩ := h.idx hi
 have hF := h.hF
 rw [← idxTo_length b (hK b)] at hF
 have hpl := partLen_lt hh hi h8
 have fin : ∀ {w1 : World}, W.grownBy w1 (some gf) → Below w.heap.size w w1 ∧ w1.heap[gR]? = some (.cells #[.int .i64 0, .slice none 0 0] 47 (0, 0)) := fun {w1} hg => by
  refine ⟨⟨hg.os.trans h.hB.os, hg.tape.trans h.hB.tape, hg.output.trans h.hB.output, Nat.le_trans h.hB.size hg.size, fun k hk => (hg.block k (Nat.lt_of_lt_of_le hk h.hB.size) (fun e => by injection e with e; omega)).trans (h.hB.block k hk)⟩, ?_⟩
  exact (hg.block gR (blk_lt h.hR) (fun e => blk_ne h.hR h.hF (by decide) (by injection e))).trans h.hR
 have hPE := he
 unfold partE at he ⊢
 by_cases h1 : b.length < partPos b i + partLen b i + 4
 ·rw [if_pos h1]
  by_cases h0 : b.length < partPos b i + partLen b i
  ·refine (part_short1 gf gT i (partLen b i) (partPos b i) (pDw b i) (pDh b i) cap cv (pX0 b i) (pY0 b i) (pX1 b i) (pY1 b i) sp pl Wd Ht S ad av (idxTo b (hK b)) b w W hF h.hT hC h.hB hgf x1 x2 hi2 hcap h8 hl hat h0 (by omega) d1 d2 (by omega) (by omega)).mono ?_
   rintro e w1 ⟨rfl, hg⟩
   exact ⟨rfl, fin hg⟩
  ·refine (part_short2 gf gT i (partLen b i) (partPos b i) (pDw b i) (pDh b i) cap cv (pX0 b i) (pY0 b i) (pX1 b i) (pY1 b i) sp pl Wd Ht S ad av (idxTo b (hK b)) b w W hF h.hT hC h.hB hgf x1 x2 hi2 hcap h8 hl (by omega) h1 d1 d2 (by omega) (by omega)).mono ?_
   rintro e w1 ⟨rfl, hg⟩
   exact ⟨rfl, fin hg⟩
 ·rw [if_neg h1] at he ⊢
  by_cases h2 : numL 0 (subN b (partPos b i + partLen b i) 4) = crc (subN b (partPos b i) (partLen b i))
  ·rw [if_neg (fun hh => hh h2)] at he ⊢
   rcases hd : partDec b i with rs | k
   ·rw [hd] at he; exact absurd rfl he
   ·refine (part_form gf gT i (partLen b i) (partPos b i) (pDw b i) (pDh b i) cap cv (pX0 b i) (pY0 b i) (pX1 b i) (pY1 b i) sp pl Wd Ht S ad av (idxTo b (hK b)) b w W hF h.hT hC h.hB hgf x1 x2 hi2 hcap h8 hl (by omega) d1 d2 (by omega) (by omega) d7 k (dec_err hd) h2 hd).mono ?_
    rintro e w1 ⟨rfl, hg⟩
    exact ⟨rfl, fin hg⟩
  ·rw [if_pos h2]
   refine (part_sum gf gT i (partLen b i) (partPos b i) (pDw b i) (pDh b i) cap cv (pX0 b i) (pY0 b i) (pX1 b i) (pY1 b i) sp pl Wd Ht S ad av (idxTo b (hK b)) b w W hF h.hT hC h.hB hgf x1 x2 hi2 hcap h8 hl (by omega) d1 d2 (by omega) (by omega) h2).mono ?_
   rintro e w1 ⟨rfl, hg⟩
   exact ⟨rfl, fin hg⟩
theorem part_good2 {n at1 at2 x0 y0 x1 y1 dw dh : Nat} {ix zs : List Nat} (hn : n = hK b) (hix : ix = idxTo b n) (h1 : at1 = partPos b i) (h2 : at2 = partPos b (i + 1)) (hx0 : x0 = pX0 b i) (hy0 : y0 = pY0 b i) (hx1 : x1 = pX1 b i) (hy1 : y1 = pY1 b i) (hdw : dw = pDw b i) (hdh : dh = pDh b i) (hzs : zs = partV b i)
    (hgf : w.heap.size ≤ gf) (hi : i < n) (hC : (nat .u8).C w (some ad) b.length b) (hcap : b.length ≤ cap) (h8 : ∀ i, gt b i < 256) (hl : b.length ≤ 4194304) (hm : hMay b = true) (he : partE b i = 0) (h : DI w gR gf gp gT sp pl Wd Ht S (.slice (some av) n cv) ix (.slice (some ad) b.length cap) vp hs at1 ss W) :
    Calls Try.prog 77 #[.pointer (some ⟨gf, 0, none⟩), .int .i64 (i : Int), .agg #[.int .i64 (x0 : Int), .int .i64 (y0 : Int), .int .i64 (x1 : Int), .int .i64 (y1 : Int)]] W fun e w1 => ∃ A c, e = .returned (.tuple #[.agg #[.int .i64 (dw : Int), .int .i64 (dh : Int), .slice A zs.length c], .int .i64 0]) ∧ (nat .u32).R 24 w1 W.heap.size (fun _ => True) (.slice A zs.length c) zs ∧
     DI w gR gf gp gT sp pl Wd Ht S (.slice (some av) n cv) ix (.slice (some ad) b.length cap) vp hs at2 ss w1 ∧ W.grownBy w1 (some gf) := by
 subst hn hix h1 h2 hx0 hy0 hx1 hy1 hdw hdh hzs
 exact part_good h hgf hi hC hcap h8 hl hm he
theorem part_bad2 {n at1 x0 y0 x1 y1 z : Nat} {ix : List Nat} (hn : n = hK b) (hix : ix = idxTo b n) (h1 : at1 = partPos b i) (hx0 : x0 = pX0 b i) (hy0 : y0 = pY0 b i) (hx1 : x1 = pX1 b i) (hy1 : y1 = pY1 b i) (hz : z = partE b i)
    (hgf : w.heap.size ≤ gf) (hi : i < n) (hC : (nat .u8).C w (some ad) b.length b) (hcap : b.length ≤ cap) (h8 : ∀ i, gt b i < 256) (hl : b.length ≤ 4194304) (hh : 16 + hN b ≤ b.length) (hm : hMay b = true) (hat : at1 ≤ b.length) (he : partE b i ≠ 0) (h : DI w gR gf gp gT sp pl Wd Ht S (.slice (some av) n cv) ix (.slice (some ad) b.length cap) vp hs at1 ss W) :
    Calls Try.prog 77 #[.pointer (some ⟨gf, 0, none⟩), .int .i64 (i : Int), .agg #[.int .i64 (x0 : Int), .int .i64 (y0 : Int), .int .i64 (x1 : Int), .int .i64 (y1 : Int)]] W fun e w1 => e = .returned (.tuple #[.agg #[.int .i64 0, .int .i64 0, .slice none 0 0], .int .i64 (z : Int)]) ∧ Below w.heap.size w w1 ∧ w1.heap[gR]? = some (.cells #[.int .i64 0, .slice none 0 0] 47 (0, 0)) := by
 subst hn hix h1 hx0 hy0 hx1 hy1 hz
 exact part_bad h hgf hi hC hcap h8 hl hh hm hat he
end
theorem blk_past {W w1 : World} {g gf : Nat} {cs cf : Array Value} {t tf : TypeId} (hq : W.heap[g]? = some (.cells cs t (0, 0))) (hF : W.heap[gf]? = some (.cells cf tf (0, 0))) (ht : t ≠ tf) (hg : W.grownBy w1 (some gf)) : w1.heap[g]? = some (.cells cs t (0, 0)) :=
 blk_grown hq hg (fun e => blk_ne hq hF ht (by injection e))
theorem paste_pic2 {w0 w : World} {vp vk : Value} {Wd Ht : Nat} {hs : List Hd} {ss ss2 : List (List Nat)} {B2 j : Nat} (hj : j < hs.length) {zs : List Nat} {dw dh x y : Nat} (hvk : vk = (hs[j]).v) (hs2 : ss2 = ss.set j (pasteN (ss.getD j []) zs Wd dw dh (x : Int) (y : Int)))
    (hps : (ss.getD j []).length = Wd * Ht) (hqs : zs.length = dw * dh) (hpw : 0 < Wd) (hpw2 : Wd ≤ 1024) (hph : Ht ≤ 1024) (hqw : dw ≤ 1024) (hqh : dh ≤ 1024) (hx : x ≤ 1048576) (hy : y ≤ 1048576) {A2 : Option Addr} {c2 : Nat}
    (hz : (nat .u32).R 24 w B2 (fun _ => True) (.slice A2 zs.length c2) zs) (hlt : ∀ k, vk.ownBlock = some k → k < B2) (H : PicOwn w0.heap.size w vp Wd Ht hs ss) (hB : Below w0.heap.size w0 w) :
    Calls Try.prog 78 #[.agg #[.int .i64 (Wd : Int), .int .i64 (Ht : Int), vk], .agg #[.int .i64 (dw : Int), .int .i64 (dh : Int), .slice A2 zs.length c2], .int .i64 (x : Int), .int .i64 (y : Int)] w fun e w' => e = .returned (.tuple #[]) ∧ PicOwn w0.heap.size w' vp Wd Ht hs ss2 ∧ Below w0.heap.size w0 w' ∧ Kept w w' (fun k => (hs[j]).v.ownBlock = some k) := by
 subst hvk hs2
 exact paste_pic H hB hj hz hlt hps hqs hpw hpw2 hph hqw hqh hx hy
theorem add_at (a : Addr) (n j : Nat) (hj : 0 < j) : a.add (n + j) = ⟨(a.add n).block, (a.add n).off + j, none⟩ := by
 unfold Addr.add
 rw [if_neg (by omega)]
 split
 ·rename_i h; subst h; simp
 ·simp [Nat.add_assoc]
/-- plane k's cells in the picture's row -/
theorem PicOwn.cells {B : Nat} {W : World} {ap : Addr} {n c w h : Nat} {hs : List Hd} {ss : List (List Nat)} (H : PicOwn B W (.slice (some ap) n c) w h hs ss) {k : Nat} (hk : k < hs.length) :
    W.cell? (ap.add (k * 3)) = some (.int .i64 (w : Int)) ∧ W.cell? (ap.add (k * 3 + 1)) = some (.int .i64 (h : Int)) ∧ W.cell? (ap.add (k * 3 + 2)) = some (hs[k]).v := by
 obtain ⟨e, _, hC⟩ := Kd.R_reads' H.row
 have e2 : n = hs.length := by rw [e, List.length_map]
 obtain ⟨cs, h1, h2, h3⟩ := Kd.R_get H.row (0, 0, (none, 0, 0)) (k : Int) (by omega) (by omega)
 have h4 : (hs.map fun x => (w, h, x)).getD (k : Int).toNat (0, 0, (none, 0, 0)) = (w, h, hs[k]) := by
  rw [Int.toNat_natCast, List.getD_eq_getElem?_getD, List.getElem?_map, List.getElem?_eq_getElem hk, Option.map_some, Option.getD_some]
 rw [h4] at h2
 obtain ⟨c0, c1, rfl, e0, ⟨c2, c3, rfl, e1, e3⟩⟩ := h2
 have e0' : c0 = [.int .i64 (w : Int)] := e0
 have e1' : c2 = [.int .i64 (h : Int)] := e1
 have e3' : c3 = [(hs[k]).v] := e3
 subst e0' e1' e3'
 have hsz : pk.sz = 3 := rfl
 rw [hsz, Int.toNat_natCast] at h3
 exact ⟨h3 0 _ rfl, h3 1 _ rfl, h3 2 _ rfl⟩
end Go.Proofs.Ytbbebhdcfopmmaa.A
end
section
set_option linter.unusedVariables false
set_option linter.unusedSimpArgs false
namespace Go.Proofs.Ytbbebhdcfopmmaa.A
open Go.RowKit Go.Proofs.YtbbebhdcfopmmaaW.PrintWords Go.Proofs.YtbbebhdcfopmmaaW.PrintLast Go.Proofs.YtbbebhdcfopmmaaW.PrintMore Go.Proofs.Ytbbebhdcfopmmaa.PCodecNames

set_option maxHeartbeats 8000000 in
set_option maxRecDepth 100000 in
theorem Decode_main (sp pl W H S : Nat) (ad : Addr) (cap : Nat) (b : List Nat) (w : World) (hC : (nat .u8).C w (some ad) b.length b) (hcap : b.length ≤ cap) (h8 : ∀ i, gt b i < 256) (he : openE b = 0) (q0 : hSp b = sp) (q1 : hPl b = pl) (q2 : hW b = W) (q3 : hH b = H) (q4 : hS b = S) :
    Calls Try.prog 36 #[.slice (some ad) b.length cap] w fun e w1 => Below w.heap.size w w1 ∧ ((decodeE b ≠ 0 ∧ e = .returned (.tuple #[.agg #[.int .i64 0, .slice none 0 0], .int .i64 ((decodeE b : Nat) : Int)])) ∨
     (decodeE b = 0 ∧ ∃ vp, e = .returned (.tuple #[.agg #[.int .i64 (sp : Int), vp], .int .i64 0]) ∧ ∃ hs, PicOwn w.heap.size w1 vp W H hs (laid b (hK b)))) := by
 have hu121 := Try.underlying121
 have hu119 := Try.underlying119
 have hu60 := Try.underlying60
 have hu105 := Try.underlying105
 have hu47 := Try.underlying47
 have hu73 := Try.underlying73
 have hu31 := Try.underlying31
 obtain ⟨oz1, oz2, oz3, oz4, oz5, oz6⟩ := open_zero he
 have hmay : mayB sp pl W H S = true := by rw [← q0, ← q1, ← q2, ← q3, ← q4]; exact oz4
 obtain ⟨m1, m2, m3, m4, m5, m6, m7, m8, m9, m10⟩ := mayB_true hmay
 have HM := Aside0.mk hmay
 have HE : Aside0 (openE b = 0) := ⟨he⟩
 obtain ⟨at0, q5⟩ : ∃ a, 16 + hN b = a := ⟨_, rfl⟩
 obtain ⟨n, hn⟩ : ∃ n, n = hK b := ⟨_, rfl⟩
 obtain ⟨ix, hix⟩ : ∃ ix, ix = idxTo b n := ⟨_, rfl⟩
 have HIX : Aside0 (idxTo b (hK b) = ix) := ⟨by rw [hix, hn]⟩
 have HIXN : Aside0 (ix.length = n) := ⟨by rw [hix, idxTo_length]⟩
 have HNK := Aside0.mk hn
 have HIX2 := Aside0.mk hix
 have HH : Aside0 (16 + hN b ≤ b.length) := ⟨oz5⟩
 have HMY : Aside0 (hMay b = true) := ⟨oz4⟩
 have HAT0 : Aside0 (at0 = partPos b 0) := ⟨q5.symm⟩
 have hnp : 0 < n := by
  rw [hn]; unfold hK tilesN
  exact Nat.mul_pos (Nat.mul_pos (acrossN_pos (by omega) (by omega)) (acrossN_pos (by omega) (by omega))) (by omega)
 have HIXP : Aside0 (0 < ix.length) := ⟨by rw [HIXN.out]; exact hnp⟩
 have HNL : Aside0 (n ≤ 1048576) := ⟨by have := hN_eq b; omega⟩
 have HWB : Aside0 (0 < W ∧ W ≤ 1024 ∧ H ≤ 1024 ∧ 0 < S ∧ S ≤ 1024 ∧ 0 < H) := ⟨by omega⟩
 clear hnp
 have Q0 := Aside0.mk q0; have Q1 := Aside0.mk q1; have Q2 := Aside0.mk q2; have Q3 := Aside0.mk q3; have Q4 := Aside0.mk q4; have Q5 := Aside0.mk q5
 have HC := Aside0.mk hC
 have HCAP := Aside0.mk hcap
 have H8 := Aside0.mk h8
 have HL : Aside0 (b.length < 4611686018427387904) := ⟨by omega⟩
 have HL4 := Aside0.mk oz1
 have HSZ : Aside0 (sizeB (W : Int) (H : Int) = true) := ⟨by
  unfold sizeB
  simp only [Bool.and_eq_true, decide_eq_true_eq]
  refine ⟨⟨⟨⟨by omega, by omega⟩, by omega⟩, by omega⟩, ?_⟩
  have h : ((W * H : Nat) : Int) ≤ 65536 := by omega
  simpa using h⟩
 have HSP : Aside0 (spaceE (sp : Int) pl = 0) := ⟨m10⟩
 have HP14 : Aside0 (1 ≤ pl ∧ pl ≤ 4) := ⟨⟨m3, m4⟩⟩
 obtain ⟨ss0, hss0⟩ : ∃ ss, ss = laid b 0 := ⟨_, rfl⟩
 have HS0 : Aside0 (List.replicate pl (List.replicate (W * H) 0) = ss0) := ⟨by rw [hss0, ← q1, ← q2, ← q3]; rfl⟩
 have HS00 := Aside0.mk hss0
 rw [← hn]
 obtain ⟨z, hz⟩ : ∃ z, z = decodeE b := ⟨_, rfl⟩
 have HZ := Aside0.mk hz
 rw [← hz]
 clear hC hcap h8 he q0 q1 q2 q3 q4 q5 oz1 oz2 oz3 oz4 oz5 oz6 hmay m1 m2 m3 m4 m5 m6 m7 m8 m9 m10 hn hix hss0 hz
 go_enter Try.func36, Try.ntmps36
 go_wp2_with (first | ((with_reducible refine gate_dst (N := 2) rfl ?_); refine box_event ?hg (N := 2) ?hd (cs := #[.int .i64 0, .slice none 0 0]) (t := 47) ?hr ?_; (case hd => rfl); (case hg => rfl); (case hr => first | (go_simp; done) | (go_simp; rfl)); intro gR hg_ w1 hm_ hb_; have R1 := Aside0.mk (hm_); have B1 := Aside0.mk (hb_); have GR := Aside0.mk (show w.heap.size ≤ gR by rw [hg_]; exact Nat.le_refl _); clear hm_ hb_ hg_) | (go_at_call 75; with_reducible refine (opened_calls (some ad) cap b _ ?h1 HCAP.out H8.out HL.out).mono ?_; (case h1 => exact Kd.C_below HC.out B1.out); unfold OpenPost; rintro e w3 ⟨hb, hor⟩; obtain ⟨_, gT, vi, he, hgT, hTB, hV⟩ := hor.resolve_left (fun h => absurd HE.out h.1); rw [Q0.out, Q1.out, Q2.out, Q3.out, Q4.out, Q5.out] at he; rw [HIX.out] at hV; obtain ⟨av, cv, hvi⟩ := Kd.R_slice1 hV HIXP.out; rw [HIXN.out] at hvi; subst hvi; subst he; have IV3 := Aside0.mk (Kd.R_lower hV B1.out.size); have T3 := Aside0.mk hTB; have R3 := Aside0.mk (blk_below R1.out hb); have B3 := Aside0.mk (below_step B1.out hb); clear hb hor hV hTB hgT) | ((with_reducible refine gate_dst (N := 4) rfl ?_); refine box_event ?hg (N := 4) ?hd (cs := #[.int .i64 0, .int .i64 0, .int .i64 0, .int .i64 0, .int .i64 0, .pointer none, .slice none 0 0, .slice none 0 0, .int .i64 0]) (t := 121) ?hr ?_; (case hd => rfl); (case hg => rfl); (case hr => first | (go_simp; done) | (go_simp; rfl)); intro gf hg_ w4 hm_ hb_; have R4 := Aside0.mk (blk_below R3.out hb_); have F4 := Aside0.mk (hm_); have B4 := Aside0.mk (below_step B3.out hb_); have T4 := Aside0.mk (T3.out.below hb_); have IV4 := Aside0.mk (Kd.R_below IV3.out hb_); have GF := Aside0.mk (show w.heap.size ≤ gf by rw [hg_]; exact below_size B3.out); have NRF := Aside0.mk (blk_ne R4.out F4.out (by decide)); have p0 := (blk_cell F4.out 0).trans rfl; have p1 := (blk_cell F4.out 1).trans rfl; have p2 := (blk_cell F4.out 2).trans rfl; have p3 := (blk_cell F4.out 3).trans rfl; have p4 := (blk_cell F4.out 4).trans rfl; have p5 := (blk_cell F4.out 5).trans rfl; have p6 := (blk_cell F4.out 6).trans rfl; have p7 := (blk_cell F4.out 7).trans rfl; have p8 := (blk_cell F4.out 8).trans rfl; have fp0 := blk_frozen F4.out 0; have fp1 := blk_frozen F4.out 1; have fp2 := blk_frozen F4.out 2; have fp3 := blk_frozen F4.out 3; have fp4 := blk_frozen F4.out 4; have fp5 := blk_frozen F4.out 5; have fp6 := blk_frozen F4.out 6; have fp7 := blk_frozen F4.out 7; have fp8 := blk_frozen F4.out 8; obtain ⟨ct, hct⟩ := T4.out.block; have NTF := Aside0.mk (blk_ne hct F4.out (by decide)); clear hct; have X5 := Aside0.mk (put9 (x0 := .int .i64 (sp : Int)) (x1 := .int .i64 (pl : Int)) (x2 := .int .i64 (W : Int)) (x3 := .int .i64 (H : Int)) (x4 := .int .i64 (S : Int)) (x5 := .pointer (some ⟨gT, 0, none⟩)) (x6 := .slice (some av) n cv) (x7 := .slice (some ad) b.length cap) (x8 := .int .i64 (at0 : Int)) F4.out rfl); have R5 := Aside0.mk ((X5.out.2.1 gR NRF.out).trans R4.out); have F5 := Aside0.mk (X5.out.1); have B5 := Aside0.mk (B4.out.trans (X5.out.2.2 _ GF.out)); have T5 := Aside0.mk (T4.out.move (X5.out.2.1 gT NTF.out)); have IV5 := Aside0.mk (Kd.R_mono (Kd.R_move (Kd.R_types IV4.out F4.out (by decide)) (fun k hk => X5.out.2.1 k hk.2)) (fun _ _ => trivial)); have y0 := (blk_cell F5.out 0).trans rfl; have y1 := (blk_cell F5.out 1).trans rfl; have y2 := (blk_cell F5.out 2).trans rfl; have y3 := (blk_cell F5.out 3).trans rfl; have y4 := (blk_cell F5.out 4).trans rfl; clear hm_ hb_ hg_) |
  (go_at_call 76; with_reducible refine (New_zero HP14.out.1 HP14.out.2 HSZ.out HSP.out HS0.out).mono ?_; rintro e w6 ⟨Ap, cp, hs, rfl, hP, hb⟩; have PO6 := Aside0.mk hP; have R6 := Aside0.mk (blk_below R5.out hb); have F6 := Aside0.mk (blk_below F5.out hb); have T6 := Aside0.mk (T5.out.below hb); have IV6 := Aside0.mk (Kd.R_below IV5.out hb); have B6 := Aside0.mk (below_step B5.out hb); clear hb hP y0 y1 y2 y3 y4) | ((with_reducible refine gate_dst (N := 6) rfl ?_); refine box_event ?hg (N := 6) ?hd (cs := #[.int .i64 0, .slice none 0 0]) (t := 47) ?hr ?_; (case hd => rfl); (case hg => rfl); (case hr => first | (go_simp; done) | (go_simp; rfl)); intro gp hg_ w7 hm_ hb_; have PO7 := Aside0.mk (PO6.out.below hb_); have R7 := Aside0.mk (blk_below R6.out hb_); have F7 := Aside0.mk (blk_below F6.out hb_); have T7 := Aside0.mk (T6.out.below hb_); have IV7 := Aside0.mk (Kd.R_below IV6.out hb_); have B7 := Aside0.mk (below_step B6.out hb_); have P7 := Aside0.mk (hm_); have GPP := Aside0.mk (show w.heap.size ≤ gp by rw [hg_]; exact below_size B6.out); have NRP := Aside0.mk (show gR ≠ gp by rw [hg_]; have := blk_lt R6.out; omega); have o0 := (blk_cell P7.out 0).trans rfl; have o1 := (blk_cell P7.out 1).trans rfl; have fo0 := blk_frozen P7.out 0; have fo1 := blk_frozen P7.out 1; have X8 := Aside0.mk (put2 (x := .int .i64 (sp : Int)) (y := .slice Ap pl cp) P7.out rfl); have F8 := Aside0.mk ((X8.out.2.1 gf (blk_ne F7.out P7.out (by decide))).trans F7.out); have R8 := Aside0.mk ((X8.out.2.1 gR NRP.out).trans R7.out); have P8 := Aside0.mk (X8.out.1); have PO8 := Aside0.mk (PO7.out.keep X8.out.2.1 (PO7.out.ne_row P7.out (by decide)) (PO7.out.ne_pl P7.out (by decide))); have IV8 := Aside0.mk (Kd.R_mono (Kd.R_move (Kd.R_types IV7.out P7.out (by decide)) (fun k hk => X8.out.2.1 k hk.2)) (fun _ _ => trivial)); obtain ⟨ct, hct⟩ := T7.out.block; have T8 := Aside0.mk (T7.out.move (X8.out.2.1 gT (blk_ne hct P7.out (by decide)))); clear hct; have B8 := Aside0.mk (B7.out.trans (X8.out.2.2 _ GPP.out)); have y6 := (blk_cell F8.out 6).trans rfl; clear hm_ hb_ hg_))

 obtain ⟨ap, cpx, hap⟩ := Kd.R_slice1 PO8.out.row (by rw [List.length_map, PO8.out.len, ← HS0.out, List.length_replicate]; exact HP14.out.1)
 have hpl : (hs.map fun x => (W, H, x)).length = pl := by rw [List.length_map, PO8.out.len, ← HS0.out, List.length_replicate]
 rw [hpl] at hap
 injection hap with hap1 _ hap3
 subst hap1
 subst hap3
 clear hpl
 have HHL : Aside0 (hs.length = pl) := ⟨by rw [PO8.out.len, ← HS0.out, List.length_replicate]⟩
 have D0 : Aside0 (DI w gR gf gp gT sp pl W H S (.slice (some av) n cv) ix (.slice (some ad) b.length cap) (.slice (some ap) pl cp) hs at0 ss0 ((w7.setCell ⟨gp, 0, none⟩ (.int .i64 (sp : Int))).setCell ⟨gp, 1, none⟩ (.slice (some ap) pl cp))) := ⟨⟨R8.out, F8.out, P8.out, T8.out, IV8.out, PO8.out.lower B5.out.size, B8.out⟩⟩
 have NRP8 := NRP.out
 have GPP8 : Aside0 (w.heap.size ≤ gp) := ⟨GPP.out⟩
 clear R8 F8 P8 T8 IV8 PO8 B8 R7 F7 P7 T7 IV7 PO7 B7 GPP NRP X8 R6 F6 T6 IV6 PO6 B6 y6
 clear R5 F5 B5 T5 IV5 X5
 generalize (w7.setCell ⟨gp, 0, none⟩ (.int .i64 (sp : Int))).setCell ⟨gp, 1, none⟩ (.slice (some ap) pl cp) = w8 at *
 go_loopw [46] (fun v W' => ∃ i : Nat, i ≤ n ∧ v = .int .i64 (i : Int) ∧ Aside0 (DI w gR gf gp gT sp pl W H S (.slice (some av) n cv) ix (.slice (some ad) b.length cap) (.slice (some ap) pl cp) hs (partPos b i) (laid b i) W' ∧ partsE b (n - i) i = partsE b n 0 ∧ partPos b i ≤ b.length)) (fun v _ => n - (intOf v).toNat)
 case atStart => exact ⟨0, Nat.zero_le _, rfl, ⟨by rw [← HAT0.out, ← HS00.out]; exact D0.out, rfl, by have := HH.out; exact this⟩⟩
 case round =>
  clear D0
  obtain ⟨i, hi, rfl, HI⟩ := hrel
  by_cases hlt : i < n
  ·have c1 : decide ((i : Int) < (n : Int)) = true := decide_eq_true (by omega)
   have c2 : decide (i < n) = true := decide_eq_true hlt
   have HLT := Aside0.mk hlt
   have pl1 : 1 ≤ pl := HP14.out.1
   obtain ⟨t, ht⟩ : ∃ t, t = i / pl := ⟨_, rfl⟩
   obtain ⟨k, hk⟩ : ∃ k, k = i % pl := ⟨_, rfl⟩
   have HT_ := Aside0.mk ht
   have HK_ := Aside0.mk hk
   have HKL : Aside0 (k < hs.length) := ⟨by rw [HHL.out, hk]; exact Nat.mod_lt _ (by omega)⟩
   obtain ⟨x0, hx0⟩ : ∃ r, r = pX0 b i := ⟨_, rfl⟩
   obtain ⟨y0, hy0⟩ : ∃ r, r = pY0 b i := ⟨_, rfl⟩
   obtain ⟨x1, hx1⟩ : ∃ r, r = pX1 b i := ⟨_, rfl⟩
   obtain ⟨y1, hy1⟩ : ∃ r, r = pY1 b i := ⟨_, rfl⟩
   obtain ⟨dw, hdw⟩ : ∃ r, r = pDw b i := ⟨_, rfl⟩
   obtain ⟨dh, hdh⟩ : ∃ r, r = pDh b i := ⟨_, rfl⟩
   obtain ⟨zs, hzs⟩ : ∃ r, r = partV b i := ⟨_, rfl⟩
   obtain ⟨at1, hat1⟩ : ∃ r, r = partPos b i := ⟨_, rfl⟩
   obtain ⟨at2, hat2⟩ : ∃ r, r = partPos b (i + 1) := ⟨_, rfl⟩
   obtain ⟨ss, hss⟩ : ∃ r, r = laid b i := ⟨_, rfl⟩
   obtain ⟨ss2, hss2⟩ : ∃ r, r = laid b (i + 1) := ⟨_, rfl⟩
   rw [← hat1, ← hss] at HI
   have HWB' := HWB.out
   have hnl := HNL.out
   have htl : t ≤ i := by rw [ht]; exact Nat.div_le_self _ _
   have HRECT : Aside0 (codec_grid_rect.f (sp : Int) (pl : Int) (W : Int) (H : Int) (S : Int) (t : Int) = some ((x0 : Int), (y0 : Int), (x1 : Int), (y1 : Int))) := ⟨by
    rw [rect_f (sp : Int) (pl : Int) W H S t (by omega) (by omega) (by omega) (by omega) (by omega) (by omega), hx1, hy1, hx0, hy0, ht, ← Q1.out]
    unfold pX1 pY1 pX0 pY0
    rw [Q2.out, Q3.out, Q4.out, Q1.out]⟩
   obtain ⟨d1, d2, d3, d4, d5, d6, d7, d8, d9⟩ := part_dims HMY.out (by rw [← HNK.out]; exact hlt)
   rw [← hdw, ← hx0, ← hx1] at d1
   rw [← hdh, ← hy0, ← hy1] at d2
   rw [← hdw] at d3 d5 d7
   rw [← hdh] at d4 d6 d7
   rw [← hx1] at d8
   rw [← hy1] at d9
   have HDB : Aside0 (dw ≤ 1024 ∧ dh ≤ 1024 ∧ x0 ≤ 1048576 ∧ y0 ≤ 1048576) := ⟨by omega⟩
   have HPS : Aside0 ((ss.getD k []).length = W * H) := ⟨by rw [hss, ← Q2.out, ← Q3.out]; exact laid_pl i k (by rw [Q1.out, ← HHL.out]; exact HKL.out)⟩
   have HS2 : Aside0 (ss2 = ss.set k (pasteN (ss.getD k []) zs W dw dh (x0 : Int) (y0 : Int))) := ⟨by
    rw [hss2, hss, hzs, hdw, hdh, hx0, hy0, hk, laid, Q1.out, Q2.out]⟩
   clear d1 d2 d3 d4 d5 d6 d7 d8 d9
   have HX0 := Aside0.mk hx0; have HY0 := Aside0.mk hy0; have HX1 := Aside0.mk hx1; have HY1 := Aside0.mk hy1; have HDW := Aside0.mk hdw; have HDH := Aside0.mk hdh; have HZS := Aside0.mk hzs; have HA1 := Aside0.mk hat1; have HA2 := Aside0.mk hat2; have HSS := Aside0.mk hss; have HSS2 := Aside0.mk hss2
   have D1 := Aside0.mk HI.out.1
   have E1 := Aside0.mk HI.out.2.1
   have L1 := Aside0.mk HI.out.2.2
   have hpi : ((i : Int) / (pl : Int)) = (t : Int) := by rw [ht]; exact (Int.natCast_ediv _ _).symm
   have hki : ((i : Int) % (pl : Int)) = (k : Int) := by rw [hk]; exact (Int.natCast_emod _ _).symm
   have htw : wrap64 (t : Int) = (t : Int) := w64 (n := (t : Int)) (by omega) (by omega)
   have WPI := Aside0.mk (show wrap64 ((i : Int) / (pl : Int)) = (t : Int) by rw [hpi]; exact htw)
   have WKI := Aside0.mk hki
   clear ht hk hx0 hy0 hx1 hy1 hdw hdh hzs hat1 hat2 hss hss2 HWB' hnl htl hpi hki htw HI hlt
   have q1 := (blk_cell D1.out.hF 1).trans rfl
   go_wp2
   go_quiet (fail)
   clear q1
   obtain ⟨wd, hwd⟩ : ∃ wd, wr.drewN nq = wd := ⟨_, rfl⟩
   have D1' : Aside0 (DI w gR gf gp gT sp pl W H S (.slice (some av) n cv) ix (.slice (some ad) b.length cap) (.slice (some ap) pl cp) hs at1 ss wd) := ⟨D1.out.below (below_at hwd (Below.refl _ _))⟩
   simp only [WPI.out, WKI.out, hwd]
   clear D1 WPI WKI
   have q0 := (blk_cell D1'.out.hF 0).trans rfl
   have q1 := (blk_cell D1'.out.hF 1).trans rfl
   have q2 := (blk_cell D1'.out.hF 2).trans rfl
   have q3 := (blk_cell D1'.out.hF 3).trans rfl
   have q4 := (blk_cell D1'.out.hF 4).trans rfl
   by_cases hE : partE b i = 0
   ·have HE0 := Aside0.mk hE
    obtain ⟨p1, p2, rs, p3⟩ := partE_zero hE
    have HQS : Aside0 (zs.length = dw * dh) := ⟨by
     have h1 := (dec_one (subN_lt H8.out) p3).1
     rw [HZS.out, HDW.out, HDH.out]
     unfold partV
     rw [p3]
     exact (planeTo_length _ _ _).trans h1⟩
    have HP2 : Aside0 (partPos b (i + 1) ≤ b.length) := ⟨p1⟩
    clear hE p1 p2 p3
    go_wp2_with (first | (go_at_call 68; with_reducible refine (codec_grid_rect.calls _ _ _ _ _ _ _ _ _ _ _ HRECT.out).mono ?_; rintro e w2 ⟨rfl, hb⟩; have I2 := Aside0.mk (D1'.out.below hb); clear hb) | ((with_reducible refine gate_dst (N := 11) rfl ?_); refine box_event ?hg (N := 11) ?hd (cs := #[.int .i64 0, .int .i64 0, .int .i64 0, .int .i64 0]) (t := 73) ?hr ?_; (case hd => rfl); (case hg => rfl); (case hr => first | (go_simp; done) | (go_simp; rfl)); intro gq hg_ w3 hm_ hb_; have X4 := Aside0.mk (put4 (x := .int .i64 (x0 : Int)) (y := .int .i64 (y0 : Int)) (z := .int .i64 (x1 : Int)) (u := .int .i64 (y1 : Int)) hm_ rfl); have I4 := Aside0.mk (I2.out.below ((show Below w2.heap.size w2 w3 from hb_).trans (X4.out.2.2 _ (by rw [hg_]; exact Nat.le_refl _)))); have Q4 := Aside0.mk (X4.out.1); have yy0 := (blk_cell Q4.out 0).trans rfl; have yy1 := (blk_cell Q4.out 1).trans rfl; have yy2 := (blk_cell Q4.out 2).trans rfl; have yy3 := (blk_cell Q4.out 3).trans rfl; have Q3 := Aside0.mk hm_; have o0 := (blk_cell Q3.out 0).trans rfl; have o1 := (blk_cell Q3.out 1).trans rfl; have o2 := (blk_cell Q3.out 2).trans rfl; have o3 := (blk_cell Q3.out 3).trans rfl; have fo0 := blk_frozen Q3.out 0; have fo1 := blk_frozen Q3.out 1; have fo2 := blk_frozen Q3.out 2; have fo3 := blk_frozen Q3.out 3; clear hm_ hb_ hg_ X4 Q3 q0 q1 q2 q3 q4) | 
     (go_at_call 77; with_reducible refine (part_good2 HNK.out HIX2.out HA1.out HA2.out HX0.out HY0.out HX1.out HY1.out HDW.out HDH.out HZS.out GF.out HLT.out HC.out HCAP.out H8.out HL4.out HMY.out HE0.out I4.out).mono ?_; rintro e w5 ⟨Az, cz, rfl, hR, hD, hg⟩; have V5 := Aside0.mk hR; have I5 := Aside0.mk hD; have Q5 := Aside0.mk (blk_past Q4.out I4.out.hF (by decide) hg); have O4 := Aside0.mk I4.out.hO; clear hR hD hg yy0 yy1 yy2 yy3) | ((with_reducible refine gate_dst (N := 12) rfl ?_); refine box_event ?hg (N := 12) ?hd (cs := #[.int .i64 0, .int .i64 0, .slice none 0 0]) (t := 31) ?hr ?_; (case hd => rfl); (case hg => rfl); (case hr => first | (go_simp; done) | (go_simp; rfl)); intro gz hg_ w6 hm_ hb_; have X6 := Aside0.mk (put3 (x := .int .i64 (dw : Int)) (y := .int .i64 (dh : Int)) (z := .slice Az zs.length cz) hm_ rfl); have HB6 := Aside0.mk ((show Below w5.heap.size w5 w6 from hb_).trans (X6.out.2.2 _ (by rw [hg_]; exact Nat.le_refl _))); have I6 := Aside0.mk (I5.out.below HB6.out); have Q6 := Aside0.mk (blk_below Q5.out HB6.out); have V6 := Aside0.mk (Kd.R_below V5.out HB6.out); have Z6 := Aside0.mk (X6.out.1); have Z5 := Aside0.mk hm_; have o0 := (blk_cell Z5.out 0).trans rfl; have o1 := (blk_cell Z5.out 1).trans rfl; have o2 := (blk_cell Z5.out 2).trans rfl; have fo0 := blk_frozen Z5.out 0; have fo1 := blk_frozen Z5.out 1; have fo2 := blk_frozen Z5.out 2; clear hm_ hb_ hg_ X6 HB6 Z5))
    generalize ((w6.setCell ⟨gz, 0, none⟩ (.int .i64 (dw : Int))).setCell ⟨gz, 1, none⟩ (.int .i64 (dh : Int))).setCell ⟨gz, 2, none⟩ (.slice Az zs.length cz) = wp at *
    have p1 := (blk_cell I6.out.hP 1).trans rfl
    have x_0 := (blk_cell Q6.out 0).trans rfl
    have x_1 := (blk_cell Q6.out 1).trans rfl
    have z0 := (blk_cell Z6.out 0).trans rfl
    have z1 := (blk_cell Z6.out 1).trans rfl
    have z2 := (blk_cell Z6.out 2).trans rfl
    obtain ⟨s0, s1, s2⟩ := I6.out.hO.cells HKL.out
    obtain ⟨vk, hvk⟩ : ∃ v, v = (hs[k]'HKL.out).v := ⟨_, rfl⟩
    rw [← hvk] at s2
    rw [add_at _ _ _ (by decide)] at s1 s2
    obtain ⟨aq, haq⟩ : ∃ a, ap.add (k * 3) = a := ⟨_, rfl⟩
    rw [haq] at s0 s1 s2
    have HVK := Aside0.mk hvk
    clear hvk
    have kp : k < pl := by rw [← HHL.out]; exact HKL.out
    have i1 : ((k : Int) < (pl : Int)) = True := eq_true (by omega)
    have i2 : (k < pl) = True := eq_true kp
    clear kp
    have HBL := Aside0.mk (show ∀ kk, vk.ownBlock = some kk → kk < _ from fun kk hk => (O4.out.pl_lt HKL.out (by rw [← HVK.out]; exact hk)).2.1)
    go_still_tail 10, (by kernel_rfl)
    change wpList _ _ _ _ _ wp.drew
    have I7 : Aside0 (DI w gR gf gp gT sp pl W H S (.slice (some av) n cv) ix (.slice (some ad) b.length cap) (.slice (some ap) pl cp) hs at2 ss wp.drew) := ⟨I6.out.below (below_drew1 (Below.refl _ _))⟩
    have V7 := Aside0.mk (Kd.R_below V6.out (below_drew1 (Below.refl _ wp)))
    clear I6 Q6 Z6 V6 p1 x_0 x_1 z0 z1 z2 s0 s1 s2 i1 i2 haq
    generalize wp.drew = wq at *
    have hnb : n ≤ 1048576 := HNL.out
    go_wp2_with (go_at_call 78; with_reducible refine (paste_pic2 HKL.out HVK.out HS2.out HPS.out HQS.out HWB.out.1 HWB.out.2.1 HWB.out.2.2.1 HDB.out.1 HDB.out.2.1 HDB.out.2.2.1 HDB.out.2.2.2 V7.out HBL.out I7.out.hO I7.out.hB).mono ?_; rintro e w8' ⟨rfl, hO, hB, hk⟩; have I8 := Aside0.mk (I7.out.paste HKL.out hO hB hk); clear hO hB hk)
    have HF : Aside0 (DI w gR gf gp gT sp pl W H S (.slice (some av) n cv) ix (.slice (some ad) b.length cap) (.slice (some ap) pl cp) hs (partPos b (i + 1)) (laid b (i + 1)) w8' ∧ partsE b (n - (i + 1)) (i + 1) = partsE b n 0 ∧ partPos b (i + 1) ≤ b.length) := ⟨by
     refine ⟨by rw [← HA2.out, ← HSS2.out]; exact I8.out, ?_, HP2.out⟩
     have h := E1.out
     have hlt := HLT.out
     rw [show n - i = (n - (i + 1)) + 1 by omega] at h
     have h2 : partsE b ((n - (i + 1)) + 1) i = partsE b (n - (i + 1)) (i + 1) := by rw [partsE, if_pos HE0.out]
     rw [← h2]
     exact h⟩
    have hlt := HLT.out
    go_roundw
    case measure => simp [intOf]; omega
    case rel => first | exact ⟨i + 1, by omega, by go_num, HF⟩ | ((repeat apply Exists.intro); exact ⟨⟨i + 1, by omega, by go_num, HF⟩, rfl⟩)
   ·have HE0 := Aside0.mk hE
    have HZ2 : Aside0 (z = partE b i) := ⟨by
     have h := E1.out
     have hlt := HLT.out
     have h2 : partsE b ((n - (i + 1)) + 1) i = partE b i := by rw [partsE, if_neg HE0.out]
     rw [show n - i = (n - (i + 1)) + 1 by omega, h2] at h
     have h0 := HE.out
     rw [HZ.out]
     unfold decodeE
     rw [if_neg (by omega), ← HNK.out, ← h, if_pos HE0.out]⟩
    have hz0 : z ≠ 0 := by rw [HZ2.out]; exact hE
    have t1 : ((z : Int) != 0) = true := by rw [bne_iff_ne]; omega
    have t2 : (z != 0) = true := by rw [bne_iff_ne]; omega
    have HZ0 := Aside0.mk hz0
    clear hE hz0
    go_wp2_with (first | (go_at_call 68; with_reducible refine (codec_grid_rect.calls _ _ _ _ _ _ _ _ _ _ _ HRECT.out).mono ?_; rintro e w2 ⟨rfl, hb⟩; have I2 := Aside0.mk (D1'.out.below hb); clear hb) | ((with_reducible refine gate_dst (N := 11) rfl ?_); refine box_event ?hg (N := 11) ?hd (cs := #[.int .i64 0, .int .i64 0, .int .i64 0, .int .i64 0]) (t := 73) ?hr ?_; (case hd => rfl); (case hg => rfl); (case hr => first | (go_simp; done) | (go_simp; rfl)); intro gq hg_ w3 hm_ hb_; have X4 := Aside0.mk (put4 (x := .int .i64 (x0 : Int)) (y := .int .i64 (y0 : Int)) (z := .int .i64 (x1 : Int)) (u := .int .i64 (y1 : Int)) hm_ rfl); have I4 := Aside0.mk (I2.out.below ((show Below w2.heap.size w2 w3 from hb_).trans (X4.out.2.2 _ (by rw [hg_]; exact Nat.le_refl _)))); have Q4 := Aside0.mk (X4.out.1); have yy0 := (blk_cell Q4.out 0).trans rfl; have yy1 := (blk_cell Q4.out 1).trans rfl; have yy2 := (blk_cell Q4.out 2).trans rfl; have yy3 := (blk_cell Q4.out 3).trans rfl; have Q3 := Aside0.mk hm_; have o0 := (blk_cell Q3.out 0).trans rfl; have o1 := (blk_cell Q3.out 1).trans rfl; have o2 := (blk_cell Q3.out 2).trans rfl; have o3 := (blk_cell Q3.out 3).trans rfl; have fo0 := blk_frozen Q3.out 0; have fo1 := blk_frozen Q3.out 1; have fo2 := blk_frozen Q3.out 2; have fo3 := blk_frozen Q3.out 3; clear hm_ hb_ hg_ X4 Q3 q0 q1 q2 q3 q4) | 
     (go_at_call 77; with_reducible refine (part_bad2 HNK.out HIX2.out HA1.out HX0.out HY0.out HX1.out HY1.out HZ2.out GF.out HLT.out HC.out HCAP.out H8.out HL4.out HH.out HMY.out L1.out HE0.out I4.out).mono ?_; rintro e w5 ⟨rfl, hB, hR⟩; have R5 := Aside0.mk hR; have B5 := Aside0.mk hB; clear hR hB yy0 yy1 yy2 yy3) | ((with_reducible refine gate_dst (N := 12) rfl ?_); refine box_event ?hg (N := 12) ?hd (cs := #[.int .i64 0, .int .i64 0, .slice none 0 0]) (t := 31) ?hr ?_; (case hd => rfl); (case hg => rfl); (case hr => first | (go_simp; done) | (go_simp; rfl)); intro gz hg_ w6 hm_ hb_; have X6 := Aside0.mk (put3 (x := .int .i64 0) (y := .int .i64 0) (z := .slice none 0 0) hm_ rfl); have HB6 := Aside0.mk ((show Below w5.heap.size w5 w6 from hb_).trans (X6.out.2.2 _ (by rw [hg_]; exact Nat.le_refl _))); have R6 := Aside0.mk (blk_below R5.out HB6.out); have B6 := Aside0.mk (below_step B5.out HB6.out); have Z5 := Aside0.mk hm_; have o0 := (blk_cell Z5.out 0).trans rfl; have o1 := (blk_cell Z5.out 1).trans rfl; have o2 := (blk_cell Z5.out 2).trans rfl; have fo0 := blk_frozen Z5.out 0; have fo1 := blk_frozen Z5.out 1; have fo2 := blk_frozen Z5.out 2; have r0 := (blk_cell R6.out 0).trans rfl; have r1 := (blk_cell R6.out 1).trans rfl; have fr0 := blk_frozen R6.out 0; have fr1 := blk_frozen R6.out 1; clear hm_ hb_ hg_ X6 HB6 Z5))
    obtain ⟨wx, hwx⟩ : ∃ wx, wx = ((w6.setCell ⟨gz, 0, none⟩ (.int .i64 0)).setCell ⟨gz, 1, none⟩ (.int .i64 0)).setCell ⟨gz, 2, none⟩ (.slice none 0 0) := ⟨_, rfl⟩
    rw [← hwx] at R6 B6 ⊢
    obtain ⟨wz, hwz⟩ : ∃ wz, wz = (wx.setCell ⟨gR, 0, none⟩ (.int .i64 0)).setCell ⟨gR, 1, none⟩ (.slice none 0 0) := ⟨_, rfl⟩
    rw [← hwz]
    obtain ⟨hGz, hstz, hblz⟩ := put2 R6.out hwz
    refine bodyPost_ret (results_ct rfl _ _ gR 47 #[.int .i64 0, .slice none 0 0] (0, 0) _ rfl hGz Try.underlying47 rfl (by kernel_rfl)) rfl ?_
    exact ⟨B6.out.trans (hblz _ GR.out), .inl ⟨HZ0.out, rfl⟩⟩
  ·obtain rfl : i = n := by omega
   have c1 : decide ((i : Int) < (i : Int)) = false := decide_eq_false (by omega)
   obtain ⟨at1, hat1⟩ : ∃ r, r = partPos b i := ⟨_, rfl⟩
   rw [← hat1] at HI
   obtain ⟨ss, hss⟩ : ∃ r, r = laid b i := ⟨_, rfl⟩
   have HSS : Aside0 (laid b i = ss) := ⟨hss.symm⟩
   rw [← hss] at HI
   have D1 := Aside0.mk HI.out.1
   have R1 := Aside0.mk HI.out.1.hR
   have B1 := Aside0.mk HI.out.1.hB
   have HZ1 : Aside0 (z = if at1 ≠ b.length then 181 else 0) := ⟨by
    have h := HI.out.2.1
    rw [Nat.sub_self] at h
    have h0 : partsE b i 0 = 0 := h.symm
    have he := HE.out
    rw [HZ.out, hat1]
    unfold decodeE
    rw [if_neg (by omega), ← HNK.out, h0, if_neg (by omega)]⟩
   clear HI hat1 hss hlt
   have q8 := (blk_cell D1.out.hF 8).trans rfl
   have o0 := (blk_cell R1.out 0).trans rfl
   have o1 := (blk_cell R1.out 1).trans rfl
   have fo0 := blk_frozen R1.out 0
   have fo1 := blk_frozen R1.out 1
   have q_0 := (blk_cell D1.out.hP 0).trans rfl
   have q_1 := (blk_cell D1.out.hP 1).trans rfl
   by_cases hA : at1 = b.length
   ·have t1 : ((at1 : Int) != (b.length : Int)) = false := by rw [bne_eq_false_iff_eq]; omega
    have t2 : (at1 != b.length) = false := by rw [bne_eq_false_iff_eq]; exact hA
    have HZ3 : Aside0 (z = 0) := ⟨by rw [HZ1.out, if_neg (by omega)]⟩
    clear hA
    go_wp2
    obtain ⟨wz, hwz⟩ : ∃ wz, wz = (wr.setCell ⟨gR, 0, none⟩ (.int .i64 (sp : Int))).setCell ⟨gR, 1, none⟩ (.slice (some ap) pl cp) := ⟨_, rfl⟩
    rw [← hwz]
    obtain ⟨hGz, hstz, hblz⟩ := put2 R1.out hwz
    refine bodyPost_ret (results_ct rfl _ _ gR 47 #[.int .i64 (sp : Int), .slice (some ap) pl cp] (0, 0) _ rfl hGz Try.underlying47 rfl (by kernel_rfl)) rfl ?_
    exact ⟨B1.out.trans (hblz _ GR.out), .inr ⟨HZ3.out, _, rfl, hs, by rw [HSS.out]; exact D1.out.hO.keep hstz (D1.out.hO.ne_row R1.out (by decide)) (D1.out.hO.ne_pl R1.out (by decide))⟩⟩
   ·have t1 : ((at1 : Int) != (b.length : Int)) = true := by rw [bne_iff_ne]; omega
    have t2 : (at1 != b.length) = true := by rw [bne_iff_ne]; exact hA
    have HZ3 : Aside0 (z = 181) := ⟨by rw [HZ1.out, if_pos hA]⟩
    clear hA
    go_wp2
    obtain ⟨wz, hwz⟩ : ∃ wz, wz = (wr.setCell ⟨gR, 0, none⟩ (.int .i64 0)).setCell ⟨gR, 1, none⟩ (.slice none 0 0) := ⟨_, rfl⟩
    rw [← hwz]
    obtain ⟨hGz, hstz, hblz⟩ := put2 R1.out hwz
    refine bodyPost_ret (results_ct rfl _ _ gR 47 #[.int .i64 0, .slice none 0 0] (0, 0) _ rfl hGz Try.underlying47 rfl (by kernel_rfl)) rfl ?_
    exact ⟨B1.out.trans (hblz _ GR.out), .inl ⟨by rw [HZ3.out]; decide, by rw [HZ3.out]; rfl⟩⟩
end Go.Proofs.Ytbbebhdcfopmmaa.A
end
section
set_option linter.unusedVariables false
set_option linter.unusedSimpArgs false
namespace Go.Proofs.Ytbbebhdcfopmmaa.A
open Go.RowKit Go.Proofs.YtbbebhdcfopmmaaW.PrintWords Go.Proofs.YtbbebhdcfopmmaaW.PrintLast Go.Proofs.YtbbebhdcfopmmaaW.PrintMore Go.Proofs.Ytbbebhdcfopmmaa.PCodecNames

/-- Decode of any bytes -/
def DecP (b : List Nat) (w : World) (e : Ending) (w1 : World) : Prop := Below w.heap.size w w1 ∧ ((decodeE b ≠ 0 ∧ e = .returned (.tuple #[.agg #[.int .i64 0, .slice none 0 0], .int .i64 ((decodeE b : Nat) : Int)])) ∨
 (decodeE b = 0 ∧ ∃ vp, e = .returned (.tuple #[.agg #[.int .i64 (hSp b : Int), vp], .int .i64 0]) ∧ ∃ hs, PicOwn w.heap.size w1 vp (hW b) (hH b) hs (laid b (hK b))))
theorem Decode_any (A : Option Addr) (cap : Nat) (b : List Nat) (w : World) (hC : (nat .u8).C w A b.length b) (hcap : b.length ≤ cap) (h8 : ∀ i, gt b i < 256) (hl : b.length < 4611686018427387904) :
    Calls Try.prog 36 #[.slice A b.length cap] w (DecP b w) := by
 by_cases he : openE b = 0
 ·obtain ⟨z1, z2, _⟩ := open_zero he
  obtain ⟨ad, c, rfl, _⟩ := Kd.C_get hC 0 0 (by decide) (by omega)
  exact (Decode_main (hSp b) (hPl b) (hW b) (hH b) (hS b) ad cap b w hC hcap h8 he rfl rfl rfl rfl rfl).mono fun _ _ h => h
 ·refine (Decode_bad A cap b w hC hcap h8 hl he).mono ?_
  rintro e w1 ⟨rfl, hb⟩
  have h1 : decodeE b = openE b := by unfold decodeE; rw [if_pos he]
  exact ⟨hb, .inl ⟨by rw [h1]; exact he, by rw [h1]⟩⟩

section
variable {w : World} {gf gT sp pl Wd Ht S : Nat} {cv cap i : Nat} {av ad : Addr} {b : List Nat} {W : World} {ok : Nat → Prop}
def FC (sp pl Wd Ht S gT : Nat) (vx vb : Value) (at1 : Nat) : Obj := .cells #[.int .i64 (sp : Int), .int .i64 (pl : Int), .int .i64 (Wd : Int), .int .i64 (Ht : Int), .int .i64 (S : Int), .pointer (some ⟨gT, 0, none⟩), vx, vb, .int .i64 (at1 : Int)] 121 (0, 0)
theorem idx_cell {n i v gf : Nat} {ix : List Nat} {cf : Array Value} (hI : (nat .i64).R 3 W w.heap.size ok (.slice (some av) n cv) ix) (hF : W.heap[gf]? = some (.cells cf 121 (0, 0))) (hn : ix.length = n) (hi : i < n) (hv : gt ix i = v) : W.cell? (av.add i) = some (.int .i64 (v : Int)) ∧ (av.add i).block ≠ gf := by
 obtain ⟨c, h1, h2, h3⟩ := Kd.R_get hI 0 (i : Int) (by omega) (by omega)
 refine ⟨?_, by rw [add_block]; exact Kd.own_blk (ad := av) (Kd.R_ne hI hF (by decide))⟩
 unfold gt at hv
 have h5 : c = [.int .i64 (v : Int)] := by
  have := h2
  simp only [Int.toNat_natCast] at this
  rw [hv] at this
  exact this
 have h6 := h3 0 (.int .i64 (v : Int)) (by rw [h5]; rfl)
 simpa [nat, Kd.scalar] using h6
theorem part_goodF {n at1 at2 x0 y0 x1 y1 dw dh : Nat} {ix zs : List Nat} (hn : n = hK b) (hix : ix = idxTo b n) (h1 : at1 = partPos b i) (h2 : at2 = partPos b (i + 1)) (hx0 : x0 = pX0 b i) (hy0 : y0 = pY0 b i) (hx1 : x1 = pX1 b i) (hy1 : y1 = pY1 b i) (hdw : dw = pDw b i) (hdh : dh = pDh b i) (hzs : zs = partV b i)
    (hgf : w.heap.size ≤ gf) (hi : i < n) (hC : (nat .u8).C w (some ad) b.length b) (hcap : b.length ≤ cap) (h8 : ∀ i, gt b i < 256) (hl : b.length ≤ 4194304) (hm : hMay b = true) (he : partE b i = 0) (hF : W.heap[gf]? = some (FC sp pl Wd Ht S gT (.slice (some av) n cv) (.slice (some ad) b.length cap) at1)) (hT : TB W gT) (hI : (nat .i64).R 3 W w.heap.size ok (.slice (some av) n cv) ix) (hB : Below w.heap.size w W) :
    Calls Try.prog 77 #[.pointer (some ⟨gf, 0, none⟩), .int .i64 (i : Int), .agg #[.int .i64 (x0 : Int), .int .i64 (y0 : Int), .int .i64 (x1 : Int), .int .i64 (y1 : Int)]] W fun e w1 => ∃ A c, e = .returned (.tuple #[.agg #[.int .i64 (dw : Int), .int .i64 (dh : Int), .slice A zs.length c], .int .i64 0]) ∧ (nat .u32).R 24 w1 W.heap.size (fun _ => True) (.slice A zs.length c) zs ∧
     w1.heap[gf]? = some (FC sp pl Wd Ht S gT (.slice (some av) n cv) (.slice (some ad) b.length cap) at2) ∧ W.grownBy w1 (some gf) := by
 subst hn hix h1 h2 hx0 hy0 hx1 hy1 hdw hdh hzs
 obtain ⟨p1, p2, rs, p3⟩ := partE_zero he
 obtain ⟨d1, d2, d3, d4, d5, d6, d7, d8, d9⟩ := part_dims hm hi
 have hi2 : i < (idxTo b (hK b)).length := by rw [idxTo_length]; exact hi
 obtain ⟨x1, x2⟩ := idx_cell hI hF (idxTo_length b (hK b)) hi (gt_idxTo hi)
 have hd1 := dec_one (subN_lt h8) p3
 unfold FC at hF
 rw [← idxTo_length b (hK b)] at hF
 have hV : partV b i = planeN rs (pDw b i) := by unfold partV; rw [p3]
 have := part_ok gf gT i (partLen b i) (partPos b i) (pDw b i) (pDh b i) cap cv (pX0 b i) (pY0 b i) (pX1 b i) (pY1 b i) sp pl Wd Ht S ad av (idxTo b (hK b)) b rs w W hF hT hC hB hgf x1 x2 hi2 hcap h8 hl p1 d1 d2 (by omega) (by omega) ⟨d3, d4, d5, d6, d7, hd1.1, hd1.2.1⟩ p2 p3
 refine this.mono ?_
 rintro e w1 ⟨v, rfl, hR, hg, hF1⟩
 rw [← hV] at hR
 obtain ⟨A, c, rfl⟩ := Kd.R_slice hR
 rw [idxTo_length] at hF1
 exact ⟨A, c, rfl, hR, hF1, hg⟩
theorem part_badF {n at1 x0 y0 x1 y1 z : Nat} {ix : List Nat} (hn : n = hK b) (hix : ix = idxTo b n) (h1 : at1 = partPos b i) (hx0 : x0 = pX0 b i) (hy0 : y0 = pY0 b i) (hx1 : x1 = pX1 b i) (hy1 : y1 = pY1 b i) (hz : z = partE b i)
    (hgf : w.heap.size ≤ gf) (hi : i < n) (hC : (nat .u8).C w (some ad) b.length b) (hcap : b.length ≤ cap) (h8 : ∀ i, gt b i < 256) (hl : b.length ≤ 4194304) (hh : 16 + hN b ≤ b.length) (hm : hMay b = true) (hat : at1 ≤ b.length) (he : partE b i ≠ 0) (hF : W.heap[gf]? = some (FC sp pl Wd Ht S gT (.slice (some av) n cv) (.slice (some ad) b.length cap) at1)) (hT : TB W gT) (hI : (nat .i64).R 3 W w.heap.size ok (.slice (some av) n cv) ix) (hB : Below w.heap.size w W) :
    Calls Try.prog 77 #[.pointer (some ⟨gf, 0, none⟩), .int .i64 (i : Int), .agg #[.int .i64 (x0 : Int), .int .i64 (y0 : Int), .int .i64 (x1 : Int), .int .i64 (y1 : Int)]] W fun e w1 => e = .returned (.tuple #[.agg #[.int .i64 0, .int .i64 0, .slice none 0 0], .int .i64 (z : Int)]) ∧ W.grownBy w1 (some gf) := by
 subst hn hix h1 hx0 hy0 hx1 hy1 hz
 obtain ⟨d1, d2, d3, d4, d5, d6, d7, d8, d9⟩ := part_dims hm hi
 have hi2 : i < (idxTo b (hK b)).length := by rw [idxTo_length]; exact hi
 obtain ⟨x1, x2⟩ := idx_cell hI hF (idxTo_length b (hK b)) hi (gt_idxTo hi)
 unfold FC at hF
 rw [← idxTo_length b (hK b)] at hF
 have hpl := partLen_lt hh hi h8
 have hPE := he
 unfold partE at he ⊢
 by_cases h1 : b.length < partPos b i + partLen b i + 4
 ·rw [if_pos h1]
  by_cases h0 : b.length < partPos b i + partLen b i
  ·refine (part_short1 gf gT i (partLen b i) (partPos b i) (pDw b i) (pDh b i) cap cv (pX0 b i) (pY0 b i) (pX1 b i) (pY1 b i) sp pl Wd Ht S ad av (idxTo b (hK b)) b w W hF hT hC hB hgf x1 x2 hi2 hcap h8 hl hat h0 (by omega) d1 d2 (by omega) (by omega)).mono ?_
   rintro e w1 ⟨rfl, hg⟩
   exact ⟨rfl, hg⟩
  ·refine (part_short2 gf gT i (partLen b i) (partPos b i) (pDw b i) (pDh b i) cap cv (pX0 b i) (pY0 b i) (pX1 b i) (pY1 b i) sp pl Wd Ht S ad av (idxTo b (hK b)) b w W hF hT hC hB hgf x1 x2 hi2 hcap h8 hl (by omega) h1 d1 d2 (by omega) (by omega)).mono ?_
   rintro e w1 ⟨rfl, hg⟩
   exact ⟨rfl, hg⟩
 ·rw [if_neg h1] at he ⊢
  by_cases h2 : numL 0 (subN b (partPos b i + partLen b i) 4) = crc (subN b (partPos b i) (partLen b i))
  ·rw [if_neg (fun hh => hh h2)] at he ⊢
   rcases hd : partDec b i with rs | k
   ·rw [hd] at he; exact absurd rfl he
   ·refine (part_form gf gT i (partLen b i) (partPos b i) (pDw b i) (pDh b i) cap cv (pX0 b i) (pY0 b i) (pX1 b i) (pY1 b i) sp pl Wd Ht S ad av (idxTo b (hK b)) b w W hF hT hC hB hgf x1 x2 hi2 hcap h8 hl (by omega) d1 d2 (by omega) (by omega) d7 k (dec_err hd) h2 hd).mono ?_
    rintro e w1 ⟨rfl, hg⟩
    exact ⟨rfl, hg⟩
  ·rw [if_pos h2]
   refine (part_sum gf gT i (partLen b i) (partPos b i) (pDw b i) (pDh b i) cap cv (pX0 b i) (pY0 b i) (pX1 b i) (pY1 b i) sp pl Wd Ht S ad av (idxTo b (hK b)) b w W hF hT hC hB hgf x1 x2 hi2 hcap h8 hl (by omega) d1 d2 (by omega) (by omega) h2).mono ?_
   rintro e w1 ⟨rfl, hg⟩
   exact ⟨rfl, hg⟩
end

/-- a part pasted into plane j, anywhere -/
theorem paste_picI {w0 w : World} {vp vk : Value} {Wd Ht : Nat} {hs : List Hd} {ss ss2 : List (List Nat)} {B2 j : Nat} (hj : j < hs.length) {zs : List Nat} {dw dh : Nat} {x y : Int} (hvk : vk = (hs[j]).v) (hs2 : ss2 = ss.set j (pasteN (ss.getD j []) zs Wd dw dh x y))
    (hps : (ss.getD j []).length = Wd * Ht) (hqs : zs.length = dw * dh) (hpw : 0 < Wd) (hpw2 : Wd ≤ 1024) (hph : Ht ≤ 1024) (hqw : dw ≤ 1024) (hqh : dh ≤ 1024) (hx0 : -1048576 ≤ x) (hx : x ≤ 1048576) (hy0 : -1048576 ≤ y) (hy : y ≤ 1048576) {A2 : Option Addr} {c2 : Nat}
    (hz : (nat .u32).R 24 w B2 (fun _ => True) (.slice A2 zs.length c2) zs) (hlt : ∀ k, vk.ownBlock = some k → k < B2) (H : PicOwn w0.heap.size w vp Wd Ht hs ss) (hB : Below w0.heap.size w0 w) :
    Calls Try.prog 78 #[.agg #[.int .i64 (Wd : Int), .int .i64 (Ht : Int), vk], .agg #[.int .i64 (dw : Int), .int .i64 (dh : Int), .slice A2 zs.length c2], .int .i64 x, .int .i64 y] w fun e w' => e = .returned (.tuple #[]) ∧ PicOwn w0.heap.size w' vp Wd Ht hs ss2 ∧ Below w0.heap.size w0 w' ∧ Kept w w' (fun k => (hs[j]).v.ownBlock = some k) := by
 subst hvk hs2
 have hf := paste_f (ps := ss.getD j []) (qs := zs) (x := x) (y := y) (fl dw dh) (Nat.le_refl _) hpw hpw2 hph hqw hqh hps hqs hx0 hx hy0 hy
 obtain ⟨e1, hc, hC⟩ := Kd.R_reads' hz
 have h := codec_paste.calls (fl dw dh) (Wd : Int) (Ht : Int) (fun k => (hs[j]).v.ownBlock = some k) (hs[j]).v (ints (ss.getD j [])) (dw : Int) (dh : Int) A2 c2 (ints zs) x y _ w0 w hB (R_ints (H.pls j hj)) (fun W_ hk => by
  have hz2 : (nat .u32).R 24 W_ B2 (fun _ => True) (.slice A2 zs.length c2) zs := Kd.R_of_own (own_move (Kd.own_of_R hz) (fun k hk2 => by
   have hb := (Kd.R_bound (nat_self hz)).1 k hk2
   exact hk.2 k hb.2.2.1 (fun e => by have := hlt k e; have := hb.2.1; omega))) (fun _ _ => trivial)
  rw [ints_length]
  exact C_ints (Kd.R_reads' hz2).2.2) (by rw [ints_length]; exact hc) hf
 rw [ints_length] at h
 refine h.mono ?_
 rintro e w' ⟨rfl, hR, hb, hk⟩
 exact ⟨rfl, H.write hj (R_nats hR) hk, hb, hk⟩
end Go.Proofs.Ytbbebhdcfopmmaa.A
end
section
set_option linter.unusedVariables false
set_option linter.unusedSimpArgs false
namespace Go.Proofs.Ytbbebhdcfopmmaa.A

theorem numL_beN (v : Nat) : ∀ (n a : Nat), numL a (beN n v) = a * 256 ^ n + v % 256 ^ n := by
 intro n
 induction n with
 | zero => intro a; simp [beN, numL]; omega
 | succ n ih =>
  intro a
  rw [show beN (n + 1) v = v / 2 ^ (8 * n) % 256 :: beN n v from rfl, numL_cons, ih, Nat.pow_succ, Nat.mod_mul, show 2 ^ (8 * n) = 256 ^ n by rw [Nat.pow_mul], Nat.add_mul, Nat.mul_assoc, Nat.mul_comm 256 (256 ^ n), Nat.mul_comm (v / 256 ^ n % 256) (256 ^ n)]
  omega
theorem num_be {n v : Nat} (h : v < 256 ^ n) : numL 0 (beN n v) = v := by rw [numL_beN, Nat.mod_eq_of_lt h, Nat.zero_mul, Nat.zero_add]
theorem num_be4 {v : Nat} (h : v < 4294967296) : numL 0 (beN 4 v) = v := num_be h
theorem num_be2 {v : Nat} (h : v < 65536) : numL 0 (beN 2 v) = v := num_be h
theorem subN_mid {b a m c : List Nat} {i n : Nat} (hb : b = a ++ (m ++ c)) (hi : i = a.length) (hn : n = m.length) : subN b i n = m := by
 subst hb hi hn
 unfold subN
 rw [List.drop_left, List.take_left]
theorem Pic.idx_split (p : Pic) (S : Nat) {i n : Nat} (h : i < n) : ∃ r, p.idx S n = p.idx S i ++ (beN 4 (p.body S i).length ++ r) := by
 obtain ⟨d, rfl⟩ : ∃ d, n = i + 1 + d := ⟨n - i - 1, by omega⟩
 clear h
 induction d with
 | zero => exact ⟨[], by rw [Nat.add_zero, Pic.idx_succ, List.append_nil]⟩
 | succ d ih =>
  obtain ⟨r, hr⟩ := ih
  refine ⟨r ++ beN 4 (p.body S (i + 1 + d)).length, ?_⟩
  rw [show i + 1 + (d + 1) = (i + 1 + d) + 1 from rfl, Pic.idx_succ, hr, List.append_assoc, List.append_assoc]
theorem Pic.parts_split (p : Pic) (S : Nat) {i n : Nat} (h : i < n) : ∃ r, p.parts S n = p.parts S i ++ (p.body S i ++ (beN 4 (crc (p.body S i)) ++ r)) := by
 obtain ⟨d, rfl⟩ : ∃ d, n = i + 1 + d := ⟨n - i - 1, by omega⟩
 clear h
 induction d with
 | zero => exact ⟨[], by rw [Nat.add_zero, Pic.parts_succ, List.append_nil]⟩
 | succ d ih =>
  obtain ⟨r, hr⟩ := ih
  refine ⟨r ++ (p.body S (i + 1 + d) ++ beN 4 (crc (p.body S (i + 1 + d)))), ?_⟩
  rw [show i + 1 + (d + 1) = (i + 1 + d) + 1 from rfl, Pic.parts_succ, hr, List.append_assoc, List.append_assoc, List.append_assoc]
theorem sizeB_of {W H : Nat} (h1 : 0 < W) (h2 : 0 < H) (h3 : W ≤ 1024) (h4 : H ≤ 1024) (h5 : W * H ≤ 65536) : sizeB (W : Int) (H : Int) = true := by
 have h6 : (W : Int) * (H : Int) ≤ 65536 := by have := Int.natCast_mul W H; omega
 unfold sizeB
 simp only [Bool.and_eq_true, decide_eq_true_eq]
 exact ⟨⟨⟨⟨by omega, by omega⟩, by omega⟩, by omega⟩, h6⟩
theorem Pic.body8 (p : Pic) (S i : Nat) : ∀ j, gt (p.body S i) j < 256 := by
 unfold Pic.body bodyN
 exact (packed_bits _).1.2
theorem Pic.parts_len_succ (p : Pic) (S n : Nat) : (p.parts S (n + 1)).length = (p.parts S n).length + (p.body S n).length + 4 := by
 rw [Pic.parts_succ, List.length_append, List.length_append, beN_length]; omega
section
variable {p : Pic} {S : Nat}
theorem enc_split (p : Pic) (S : Nat) : encN p S = p.head S ++ (p.idx S (p.count S) ++ (beN 4 (crc (p.head S ++ p.idx S (p.count S))) ++ p.parts S (p.count S))) := by unfold encN; simp [List.append_assoc]
theorem enc_len (p : Pic) (S : Nat) : (encN p S).length = 16 + 4 * p.count S + (p.parts S (p.count S)).length := by
 rw [enc_split, List.length_append, List.length_append, List.length_append, Pic.head_len, Pic.idx_len, beN_length]; omega
theorem enc_head (p : Pic) (S : Nat) {i n : Nat} (h : i + n ≤ 12) : subN (subN (encN p S) 0 12) i n = subN (p.head S) i n := by
 have e : subN (encN p S) 0 12 = p.head S := subN_mid (a := []) (enc_split p S) rfl (Pic.head_len p S).symm
 rw [e]
theorem enc_hSp (h : p.sp < 256) : hSp (encN p S) = p.sp := by
 unfold hSp
 rw [enc_head p S (by decide)]
 have : subN (p.head S) 4 1 = [p.sp % 256] := subN_mid (a := [72, 76, 68, 49]) (m := [p.sp % 256]) (c := p.ss.length % 256 :: (beN 2 p.w ++ (beN 2 p.h ++ beN 2 S))) (by simp [Pic.head]) rfl rfl
 rw [this]
 show 0 * 256 + p.sp % 256 = p.sp
 omega
theorem enc_hPl (h : p.ss.length < 256) : hPl (encN p S) = p.ss.length := by
 unfold hPl
 rw [enc_head p S (by decide)]
 have : subN (p.head S) 5 1 = [p.ss.length % 256] := subN_mid (a := [72, 76, 68, 49, p.sp % 256]) (m := [p.ss.length % 256]) (c := (beN 2 p.w ++ (beN 2 p.h ++ beN 2 S))) (by simp [Pic.head]) rfl rfl
 rw [this]
 show 0 * 256 + p.ss.length % 256 = p.ss.length
 omega
theorem enc_hW (h : p.w < 65536) : hW (encN p S) = p.w := by
 unfold hW
 rw [enc_head p S (by decide)]
 have : subN (p.head S) 6 2 = beN 2 p.w := subN_mid (a := [72, 76, 68, 49, p.sp % 256, p.ss.length % 256]) (c := beN 2 p.h ++ beN 2 S) (by simp [Pic.head]) rfl (beN_length _ _).symm
 rw [this, num_be2 h]
theorem enc_hH (h : p.h < 65536) : hH (encN p S) = p.h := by
 unfold hH
 rw [enc_head p S (by decide)]
 have : subN (p.head S) 8 2 = beN 2 p.h := subN_mid (a := [72, 76, 68, 49, p.sp % 256, p.ss.length % 256] ++ beN 2 p.w) (c := beN 2 S) (by simp [Pic.head]) (by simp) (beN_length _ _).symm
 rw [this, num_be2 h]
theorem enc_hS (h : S < 65536) : hS (encN p S) = S := by
 unfold hS
 rw [enc_head p S (by decide)]
 have : subN (p.head S) 10 2 = beN 2 S := subN_mid (a := [72, 76, 68, 49, p.sp % 256, p.ss.length % 256] ++ beN 2 p.w ++ beN 2 p.h) (c := []) (by simp [Pic.head]) (by simp) (beN_length _ _).symm
 rw [this, num_be2 h]
theorem enc_magic : hMagic (encN p S) = true := by
 unfold hMagic
 rw [enc_split]
 simp [gt, Pic.head]
theorem enc_fields (h : p.ok) (hS : S ≤ 1024) : hSp (encN p S) = p.sp ∧ hPl (encN p S) = p.ss.length ∧ hW (encN p S) = p.w ∧ hH (encN p S) = p.h ∧ A.hS (encN p S) = S ∧ hK (encN p S) = p.count S ∧ hN (encN p S) = 4 * p.count S := by
 obtain ⟨h1, h2, h3, h4, h5⟩ := h
 obtain ⟨a1, a2, a3, a4, _⟩ := h5 0 h2
 have e1 := enc_hSp (p := p) (S := S) (by omega)
 have e2 := enc_hPl (p := p) (S := S) (by omega)
 have e3 := enc_hW (p := p) (S := S) (show p.w < 65536 by exact Nat.lt_of_le_of_lt a3 (by decide))
 have e4 := enc_hH (p := p) (S := S) (show p.h < 65536 by exact Nat.lt_of_le_of_lt a4 (by decide))
 have e5 := enc_hS (p := p) (S := S) (by omega)
 have e6 : hK (encN p S) = p.count S := by unfold hK; rw [e2, e3, e4, e5]; rfl
 exact ⟨e1, e2, e3, e4, e5, e6, by rw [hN_eq, e6]⟩
theorem enc_may (h : p.ok) (h1 : 1 ≤ S) (hS : S ≤ 1024) : hMay (encN p S) = true := by
 obtain ⟨e1, e2, e3, e4, e5, _⟩ := enc_fields h hS
 unfold hMay
 rw [e1, e2, e3, e4, e5]
 obtain ⟨h1', h2, h3, h4, h5⟩ := h
 obtain ⟨a1, a2, a3, a4, a5, _⟩ := h5 0 h2
 have a1 : 0 < p.w := a1
 have a2 : 0 < p.h := a2
 have a3 : p.w ≤ 1024 := a3
 have a4 : p.h ≤ 1024 := a4
 have a5 : p.w * p.h ≤ 65536 := a5
 have a6 : (p.w : Int) * (p.h : Int) ≤ 65536 := by have := Int.natCast_mul p.w p.h; omega
 unfold mayB newE spaceE
 simp only [Bool.and_eq_true, decide_eq_true_eq]
 refine ⟨⟨h1, hS⟩, ?_⟩
 rw [if_neg (by omega), if_pos (sizeB_of a1 a2 a3 a4 a5), if_neg (by omega)]
theorem enc_partLen (h : p.ok) {i : Nat} (hi : i < p.count S) : partLen (encN p S) i = (p.body S i).length := by
 obtain ⟨r, hr⟩ := p.idx_split S hi
 have e : subN (encN p S) (12 + 4 * i) 4 = beN 4 (p.body S i).length := subN_mid (a := p.head S ++ p.idx S i) (c := r ++ (beN 4 (crc (p.head S ++ p.idx S (p.count S))) ++ p.parts S (p.count S))) (by rw [enc_split]; simp only [hr, List.append_assoc]) (by rw [List.length_append, Pic.head_len, Pic.idx_len]) (beN_length _ _).symm
 unfold partLen
 rw [e]
 exact num_be4 (by have := Pic.body_len h S i; omega)
theorem enc_partPos (h : p.ok) (hS : S ≤ 1024) : ∀ i, i ≤ p.count S → partPos (encN p S) i = 16 + 4 * p.count S + (p.parts S i).length := by
 intro i
 induction i with
 | zero => intro _; unfold partPos; rw [(enc_fields h hS).2.2.2.2.2.2]; rfl
 | succ i ih =>
  intro hi
  unfold partPos
  rw [ih (by omega), enc_partLen h (by omega), Pic.parts_len_succ]
  omega
theorem enc_part (h : p.ok) (hS : S ≤ 1024) {i : Nat} (hi : i < p.count S) : subN (encN p S) (partPos (encN p S) i) (partLen (encN p S) i) = p.body S i ∧ subN (encN p S) (partPos (encN p S) i + partLen (encN p S) i) 4 = beN 4 (crc (p.body S i)) := by
 obtain ⟨r, hr⟩ := p.parts_split S hi
 rw [enc_partPos h hS i (by omega), enc_partLen h hi]
 constructor
 ·exact subN_mid (a := p.head S ++ (p.idx S (p.count S) ++ (beN 4 (crc (p.head S ++ p.idx S (p.count S))) ++ p.parts S i))) (c := beN 4 (crc (p.body S i)) ++ r) (by rw [enc_split]; simp only [hr, List.append_assoc]) (by simp only [List.length_append, Pic.head_len, Pic.idx_len, beN_length]; omega) rfl
 ·exact subN_mid (a := p.head S ++ (p.idx S (p.count S) ++ (beN 4 (crc (p.head S ++ p.idx S (p.count S))) ++ (p.parts S i ++ p.body S i)))) (c := r) (by rw [enc_split]; simp only [hr, List.append_assoc]) (by simp only [List.length_append, Pic.head_len, Pic.idx_len, beN_length]; omega) (beN_length _ _).symm
theorem Pic.parts_le (p : Pic) (S : Nat) {i n : Nat} (h : i ≤ n) : (p.parts S i).length ≤ (p.parts S n).length := by
 rcases Nat.lt_or_ge i n with h | h
 ·obtain ⟨r, hr⟩ := p.parts_split S h
  rw [hr, List.length_append]; omega
 ·rw [show i = n by omega]; exact Nat.le_refl _
theorem enc_open (h : p.ok) (h1 : 1 ≤ S) (hS : S ≤ 1024) (hl : (encN p S).length ≤ 4194304) : openE (encN p S) = 0 := by
 obtain ⟨_, _, _, _, _, _, e7⟩ := enc_fields h hS
 have hlen := enc_len p S
 unfold openE
 have hs : subN (encN p S) (12 + 4 * p.count S) 4 = beN 4 (crc (p.head S ++ p.idx S (p.count S))) := subN_mid (a := p.head S ++ p.idx S (p.count S)) (c := p.parts S (p.count S)) (by rw [enc_split]; simp only [List.append_assoc]) (by rw [List.length_append, Pic.head_len, Pic.idx_len]) (beN_length _ _).symm
 have ht : (encN p S).take (12 + 4 * p.count S) = p.head S ++ p.idx S (p.count S) := by
  rw [enc_split, ← List.append_assoc]
  exact List.take_left' (by rw [List.length_append, Pic.head_len, Pic.idx_len])
 rw [e7, if_neg (by omega), if_neg (by omega), if_neg (fun hh => hh ⟨enc_magic, enc_may h h1 hS⟩), if_neg (by omega), if_neg (by omega), hs, ht, num_be4 (crc_lt (Pic.out8 p S _)), if_neg (fun hh => hh rfl)]
/-- a tile's samples -/
def Pic.tile (p : Pic) (S n : Nat) : List Nat := cropN (p.ss.getD (n % p.ss.length) []) p.w (tX p.w S (n / p.ss.length)) (tY p.w S (n / p.ss.length)) (min (tX p.w S (n / p.ss.length) + S) p.w) (min (tY p.w S (n / p.ss.length) + S) p.h)
def Pic.tw (p : Pic) (S n : Nat) : Nat := min (tX p.w S (n / p.ss.length) + S) p.w - tX p.w S (n / p.ss.length)
def Pic.th (p : Pic) (S n : Nat) : Nat := min (tY p.w S (n / p.ss.length) + S) p.h - tY p.w S (n / p.ss.length)
theorem enc_dims (h : p.ok) (hS : S ≤ 1024) (i : Nat) : pX0 (encN p S) i = tX p.w S (i / p.ss.length) ∧ pY0 (encN p S) i = tY p.w S (i / p.ss.length) ∧ pDw (encN p S) i = p.tw S i ∧ pDh (encN p S) i = p.th S i := by
 obtain ⟨e1, e2, e3, e4, e5, e6, e7⟩ := enc_fields h hS
 have a1 : pX0 (encN p S) i = tX p.w S (i / p.ss.length) := by unfold pX0; rw [e2, e3, e5]
 have a2 : pY0 (encN p S) i = tY p.w S (i / p.ss.length) := by unfold pY0; rw [e2, e3, e5]
 refine ⟨a1, a2, ?_, ?_⟩
 ·unfold pDw pX1; rw [a1, e3, e5]; rfl
 ·unfold pDh pY1; rw [a2, e4, e5]; rfl
theorem tile_len (p : Pic) (S i : Nat) : (p.tile S i).length = p.tw S i * p.th S i := by unfold Pic.tile cropN; rw [gridTo_length]; rfl
theorem tile_ok (h : p.ok) (h1 : 1 ≤ S) {i : Nat} (hi : i < p.count S) : (Pl.mk (p.tw S i) (p.th S i) (p.tile S i)).ok := by
 obtain ⟨_, h2, _, _, h5⟩ := h
 have hk : i % p.ss.length < p.ss.length := Nat.mod_lt _ h2
 have ho := h5 _ hk
 have o1 : 0 < p.w := ho.1
 have o2 : 0 < p.h := ho.2.1
 have ht : i / p.ss.length < tilesN p.w p.h S := Nat.div_lt_of_lt_mul (by unfold Pic.count at hi; rw [Nat.mul_comm]; exact hi)
 have hx := tX_lt (i / p.ss.length) o1 h1
 have hy := tY_lt o2 h1 ht
 exact crop_ok (p := p.pl (i % p.ss.length)) ho (x0 := tX p.w S (i / p.ss.length)) (y0 := tY p.w S (i / p.ss.length)) (x1 := min (tX p.w S (i / p.ss.length) + S) p.w) (y1 := min (tY p.w S (i / p.ss.length) + S) p.h) (by omega) (Nat.min_le_right _ _) (by omega) (Nat.min_le_right _ _)
theorem enc_dec (h : p.ok) (h1 : 1 ≤ S) (hS : S ≤ 1024) {i : Nat} (hi : i < p.count S) : partDec (encN p S) i = .ok (restsN (p.tile S i) (p.tw S i)) := by
 obtain ⟨d1, d2, d3, d4⟩ := enc_dims h hS i
 obtain ⟨q1, q2⟩ := enc_part h hS hi
 unfold partDec
 rw [q1, d3, d4, ← tile_len, show (p.tile S i).length = (restsN (p.tile S i) (p.tw S i)).length from (restsTo_length _ _ _).symm]
 exact dec_packed (restsN_lt _ _)
theorem enc_partE (h : p.ok) (h1 : 1 ≤ S) (hS : S ≤ 1024) {i : Nat} (hi : i < p.count S) : partE (encN p S) i = 0 := by
 obtain ⟨q1, q2⟩ := enc_part h hS hi
 have e := enc_dec h h1 hS hi
 have hlen := enc_len p S
 have hp := enc_partPos h hS i (by omega)
 have hl := enc_partLen (p := p) (S := S) h hi
 have hle := p.parts_le S (show i + 1 ≤ p.count S by omega)
 have hs := p.parts_len_succ S i
 unfold partE
 rw [if_neg (by omega), q1, q2, num_be4 (crc_lt (Pic.body8 p S i)), if_neg (fun hh => hh rfl), e]
theorem enc_partV (h : p.ok) (h1 : 1 ≤ S) (hS : S ≤ 1024) {i : Nat} (hi : i < p.count S) : partV (encN p S) i = p.tile S i := by
 unfold partV
 rw [enc_dec h h1 hS hi, (enc_dims h hS i).2.2.1]
 have ho := tile_ok h h1 hi
 exact planeN_rests ho.2.2.2.2.2.2 ho.1
theorem in_tile {col S q w : Nat} (hS : 0 < S) (hc : col < w) : (q * S ≤ col ∧ col < min (q * S + S) w) ↔ col / S = q := by
 constructor
 ·rintro ⟨a, b⟩
  exact Nat.div_eq_of_lt_le a (by rw [Nat.succ_mul]; omega)
 ·rintro rfl
  have e1 := Nat.div_add_mod col S
  have e2 := Nat.mod_lt col hS
  rw [Nat.mul_comm] at e1
  omega
theorem div_acrossN {col S w : Nat} (hS : 0 < S) (hc : col < w) : col / S < acrossN w S := by
 unfold acrossN
 have e : (w + S - 1) / S = (w - 1) / S + 1 := by rw [show w + S - 1 = (w - 1) + S by omega, Nat.add_div_right _ hS]
 rw [e]
 exact Nat.lt_succ_of_le (Nat.div_le_div_right (by omega))
/-- the tile in which place n lies -/
def Pic.at (p : Pic) (S n : Nat) : Nat := n / p.w / S * acrossN p.w S + n % p.w / S
theorem at_iff (hS : 0 < S) {n t : Nat} (hw : 0 < p.w) (hn : n < p.w * p.h) : p.at S n = t ↔ (n % p.w / S = t % acrossN p.w S ∧ n / p.w / S = t / acrossN p.w S) := by
 have hc := div_acrossN hS (Nat.mod_lt n hw)
 have ha : 0 < acrossN p.w S := acrossN_pos hw hS
 unfold Pic.at
 constructor
 ·rintro rfl
  rw [Nat.add_comm, Nat.add_mul_mod_self_right, Nat.mod_eq_of_lt hc, Nat.add_mul_div_right _ _ ha, Nat.div_eq_of_lt hc, Nat.zero_add]
  exact ⟨rfl, rfl⟩
 ·rintro ⟨a, b⟩
  rw [a, b, Nat.mul_comm]
  exact Nat.div_add_mod _ _
theorem at_lt (hS : 0 < S) {n : Nat} (hw : 0 < p.w) (hn : n < p.w * p.h) : p.at S n < tilesN p.w p.h S := by
 unfold Pic.at tilesN
 exact idx_lt rfl (div_acrossN hS (Nat.div_lt_of_lt_mul hn)) (div_acrossN hS (Nat.mod_lt n hw))
theorem gt_gridTo {F : Nat → Nat → Nat} {W n i : Nat} (h : i < n) : gt (gridTo F W n) i = F (i % W) (i / W) := by
 unfold gt gridTo
 rw [List.getD_eq_getElem?_getD, List.getElem?_map, List.getElem?_range h, Option.map_some, Option.getD_some]
theorem ext_getD {a b : List (List Nat)} (hl : a.length = b.length) (h : ∀ k, k < a.length → a.getD k [] = b.getD k []) : a = b := by
 apply List.ext_getElem hl
 intro i h1 h2
 have := h i h1
 rw [List.getD_eq_getElem?_getD, List.getD_eq_getElem?_getD, List.getElem?_eq_getElem h1, List.getElem?_eq_getElem h2] at this
 exact this
end
end Go.Proofs.Ytbbebhdcfopmmaa.A
end
section
set_option linter.unusedVariables false
set_option linter.unusedSimpArgs false
namespace Go.Proofs.Ytbbebhdcfopmmaa.A
open Go.RowKit Go.Proofs.YtbbebhdcfopmmaaW.PrintWords Go.Proofs.YtbbebhdcfopmmaaW.PrintLast Go.Proofs.YtbbebhdcfopmmaaW.PrintMore Go.Proofs.Ytbbebhdcfopmmaa.PCodecNames

def fewTo (l : List S31) : Nat → Nat
 | 0 => l.length
 | n + 1 => fewTo l n + (rd_T31 l (n : Int)).f2.length
theorem fewTo_le (l : List S31) {i j : Nat} (h : i ≤ j) : fewTo l i ≤ fewTo l j := by
 obtain ⟨d, rfl⟩ : ∃ d, j = i + d := ⟨j - i, by omega⟩
 clear h
 induction d with
 | zero => exact Nat.le_refl _
 | succ d ih => exact Nat.le_trans ih (Nat.le_add_right _ _)
def fewB (l : List S31) : Bool := decide (fewTo l (min l.length 100) ≤ 3000)

set_option maxHeartbeats 8000000 in
set_option maxRecDepth 100000 in
theorem few_chk (sp : Int) (A : Option Addr) (cap n : Nat) (l : List S31) (w : World) (hn : l.length = n) (hC : Kd.C k31 w A n l) (hs : fewTo l (min n 100) < 4611686018427387904) :
    Calls Try.prog 28 #[.agg #[.int .i64 sp, .slice A n cap]] w fun e w' => e = .returned (.bool (fewB l)) ∧ Below w.heap.size w w' := by
 have hu47 := Try.underlying47
 have hu31 := Try.underlying31
 obtain ⟨z, hz⟩ : ∃ z, z = fewB l := ⟨_, rfl⟩
 have HZ := Aside0.mk hz
 have HC := Aside0.mk hC
 have HS : Aside0 (∀ i, i ≤ n → i ≤ 100 → fewTo l i < 4611686018427387904) := ⟨fun i h1 h2 => Nat.lt_of_le_of_lt (fewTo_le l (by omega)) hs⟩
 have HF0 : Aside0 (fewTo l 0 = n) := ⟨hn⟩
 have HN := Aside0.mk hn
 have HZ1 : Aside0 (z = decide (fewTo l (min n 100) ≤ 3000)) := ⟨by rw [hz]; unfold fewB; rw [hn]⟩
 rw [← hz]
 clear hz hC hs hn
 go_enter Try.func28, Try.ntmps28
 go_wp2_with ((with_reducible refine gate_dst (N := 1) rfl ?_); refine box_event ?hg (N := 1) ?hd (cs := #[.int .i64 sp, .slice A n cap]) (t := 47) ?hr ?_; (case hd => rfl); (case hg => rfl); (case hr => first | (go_simp; done) | (go_simp; rfl)); intro gP hg_ w1 hm_ hb_; have P1 := Aside0.mk (hm_); have B1 := Aside0.mk (hb_); have p0 := (blk_cell P1.out 0).trans rfl; have p1 := (blk_cell P1.out 1).trans rfl; clear hm_ hb_ hg_)
 clear p0 p1
 go_loopw [3, 4] (fun u v W => ∃ i t : Nat, i ≤ n ∧ i ≤ 100 ∧ v = .int .i64 (i : Int) ∧ u = .int .i64 (t : Int) ∧ Aside0 (t = fewTo l i) ∧ Aside0 (W.heap[gP]? = some (.cells #[.int .i64 sp, .slice A n cap] 47 (0, 0)) ∧ Below w.heap.size w W)) (fun _ v _ => n - (intOf v).toNat)
 case atStart => exact ⟨0, n, Nat.zero_le _, by omega, rfl, rfl, ⟨HF0.out.symm⟩, ⟨P1.out, B1.out⟩⟩
 case round =>
  clear P1 B1
  obtain ⟨i, t, hi, hi2, rfl, rfl, HT, HI⟩ := hrel
  have P2 := Aside0.mk HI.out.1
  have B2 := Aside0.mk HI.out.2
  clear HI
  have p1 := (blk_cell P2.out 1).trans rfl
  by_cases hlt : i < n
  ·have c1 : decide ((i : Int) < (n : Int)) = true := decide_eq_true (by omega)
   have c2_ : decide (i < n) = true := decide_eq_true hlt
   have i1 : ((i : Int) < (n : Int)) = True := eq_true (by omega)
   have i2 : (i < n) = True := eq_true hlt
   by_cases hl2 : i < 100
   ·have c3 : decide ((i : Int) < 100) = true := decide_eq_true (by omega)
    have c4 : decide (i < 100) = true := decide_eq_true hl2
    obtain ⟨ad, A2, c2, rfl, x0, x1, x2, hm1, hcz⟩ := at_T31 (Kd.C_below HC.out B2.out) (i : Int) (by omega) (by omega)
    rw [Int.toNat_natCast] at x2
    obtain ⟨s, hs⟩ : ∃ f, (rd_T31 l (i : Int)).f2 = f := ⟨_, rfl⟩
    rw [hs] at x2
    obtain ⟨m, hm⟩ : ∃ m, s.length = m := ⟨_, rfl⟩
    rw [hm] at x2
    have HT2 : Aside0 (t + m = fewTo l (i + 1)) := ⟨by rw [HT.out, ← hm, ← hs]; rfl⟩
    have hb1 : t + m < 4611686018427387904 := by rw [HT2.out]; exact HS.out (i + 1) (by omega) (by omega)
    have e1 : IntKind.i64.wrap ((t : Int) + (m : Int)) = ((t + m : Nat) : Int) := by simp only [IntKind.wrap_i64]; omega
    have HLT := Aside0.mk (And.intro hlt (And.intro hl2 hb1))
    clear hcz hm1 x0 x1 hs hm hlt hl2 hb1
    go_wp2
    have hlt := HLT.out
    go_roundw
    case measure => simp [intOf]; omega
    case rel => exact ⟨i + 1, t + m, by omega, by omega, by go_num, by go_num, HT2, ⟨P2.out, B2.out⟩⟩
   ·have c3 : decide ((i : Int) < 100) = false := decide_eq_false (by omega)
    have c4 : decide (i < 100) = false := decide_eq_false hl2
    have HZ2 : Aside0 (z = decide (t ≤ 3000)) := ⟨by rw [HZ1.out, HT.out, show min n 100 = i by omega]⟩
    clear hl2 hlt
    go_wp2
    go_ret
    exact ⟨by rw [HZ2.out]; rw [show decide (t ≤ 3000) = decide ((t : Int) ≤ 3000) from decide_eq_decide.mpr (by omega)]; rfl, B2.out⟩
  ·obtain rfl : n = i := by omega
   have c1 : decide ((n : Int) < (n : Int)) = false := decide_eq_false (by omega)
   have HZ2 : Aside0 (z = decide (t ≤ 3000)) := ⟨by rw [HZ1.out, HT.out, show min n 100 = n by omega]⟩
   clear hlt
   go_wp2
   go_ret
   exact ⟨by rw [HZ2.out]; rw [show decide (t ≤ 3000) = decide ((t : Int) ≤ 3000) from decide_eq_decide.mpr (by omega)]; rfl, B2.out⟩
end Go.Proofs.Ytbbebhdcfopmmaa.A
end
section
set_option linter.unusedVariables false
set_option linter.unusedSimpArgs false
namespace Go.Proofs.Ytbbebhdcfopmmaa.A
open Go.RowKit Go.Proofs.YtbbebhdcfopmmaaW.PrintWords Go.Proofs.YtbbebhdcfopmmaaW.PrintLast Go.Proofs.YtbbebhdcfopmmaaW.PrintMore Go.Proofs.Ytbbebhdcfopmmaa.PCodecNames

/-- has a part places of it? -/
def ovl (b : List Nat) (X0 Y0 X1 Y1 i : Nat) : Bool := decide (max (pX0 b i) X0 < min (pX1 b i) X1) && decide (max (pY0 b i) Y0 < min (pY1 b i) Y1)
/-- the first error among the parts from i on that have -/
def regE (b : List Nat) (X0 Y0 X1 Y1 : Nat) : Nat → Nat → Nat
 | 0, _ => 0
 | d + 1, i => if ovl b X0 Y0 X1 Y1 i = true ∧ partE b i ≠ 0 then partE b i else regE b X0 Y0 X1 Y1 d (i + 1)
def regRead (b : List Nat) (X0 Y0 X1 Y1 : Nat) : Nat → List Nat
 | 0 => []
 | i + 1 => if ovl b X0 Y0 X1 Y1 i = true ∧ i % hPl b = 0 then regRead b X0 Y0 X1 Y1 i ++ [i / hPl b] else regRead b X0 Y0 X1 Y1 i
def regLaid (b : List Nat) (X0 Y0 X1 Y1 : Nat) : Nat → List (List Nat)
 | 0 => List.replicate (hPl b) (List.replicate ((X1 - X0) * (Y1 - Y0)) 0)
 | i + 1 => if ovl b X0 Y0 X1 Y1 i = true then (regLaid b X0 Y0 X1 Y1 i).set (i % hPl b) (pasteN ((regLaid b X0 Y0 X1 Y1 i).getD (i % hPl b) []) (partV b i) (X1 - X0) (pDw b i) (pDh b i) ((pX0 b i : Int) - (X0 : Int)) ((pY0 b i : Int) - (Y0 : Int))) else regLaid b X0 Y0 X1 Y1 i
theorem regLaid_len (b : List Nat) (X0 Y0 X1 Y1 i : Nat) : (regLaid b X0 Y0 X1 Y1 i).length = hPl b := by
 induction i with
 | zero => simp [regLaid]
 | succ i ih => rw [regLaid]; split <;> first | (rw [List.length_set, ih]) | exact ih
theorem regLaid_pl {b : List Nat} {X0 Y0 X1 Y1 : Nat} (i : Nat) : ∀ k, k < hPl b → ((regLaid b X0 Y0 X1 Y1 i).getD k []).length = (X1 - X0) * (Y1 - Y0) := by
 induction i with
 | zero =>
  intro k hk
  unfold regLaid
  rw [List.getD_eq_getElem?_getD, List.getElem?_replicate, if_pos hk, Option.getD_some, List.length_replicate]
 | succ i ih =>
  intro k hk
  unfold regLaid
  split
  ·rw [List.getD_eq_getElem?_getD, List.getElem?_set]
   have hl := regLaid_len b X0 Y0 X1 Y1 i
   by_cases h1 : i % hPl b = k
   ·rw [if_pos h1, if_pos (by rw [hl, h1]; exact hk), Option.getD_some, pasteN_length]
    exact ih _ (by rw [h1]; exact hk)
   ·rw [if_neg h1, ← List.getD_eq_getElem?_getD]
    exact ih k hk
  ·exact ih k hk
theorem regRead_len (b : List Nat) (X0 Y0 X1 Y1 : Nat) : ∀ i, (regRead b X0 Y0 X1 Y1 i).length ≤ i := by
 intro i
 induction i with
 | zero => exact Nat.le_refl _
 | succ i ih =>
  unfold regRead
  split
  ·rw [List.length_append, List.length_singleton]; omega
  ·omega
/-- is a rectangle within the file's picture? -/
def withinB (b : List Nat) (X0 Y0 X1 Y1 : Int) : Bool := decide (0 ≤ X0) && decide (X0 < X1) && decide (X1 ≤ (hW b : Int)) && decide (0 ≤ Y0) && decide (Y0 < Y1) && decide (Y1 ≤ (hH b : Int))
def regionE (b : List Nat) (X0 Y0 X1 Y1 : Int) : Nat :=
 if openE b ≠ 0 then openE b else if withinB b X0 Y0 X1 Y1 = false then 52 else if b.length < partPos b (hK b) then 182 else if partPos b (hK b) < b.length then 181
 else regE b X0.toNat Y0.toNat X1.toNat Y1.toNat (hK b) 0
theorem partPos_mono (b : List Nat) (i : Nat) : ∀ d, partPos b i + 4 * d ≤ partPos b (i + d) := by
 intro d
 induction d with
 | zero => exact Nat.le_refl _
 | succ d ih => rw [← Nat.add_assoc, partPos]; omega

/-- how things stand in Region's loop -/
structure RI (w : World) (gR gf gp gT gr sp pl Wd Ht S : Nat) (vx : Value) (ix : List Nat) (vb vp vr : Value) (hs : List Hd) (X0 Y0 X1 Y1 pw ph at1 : Nat) (ss : List (List Nat)) (rd : List Nat) (W : World) : Prop where
 hR : W.heap[gR]? = some (.cells #[.int .i64 0, .slice none 0 0] 47 (0, 0))
 hF : W.heap[gf]? = some (FC sp pl Wd Ht S gT vx vb at1)
 hP : W.heap[gp]? = some (.cells #[.int .i64 (sp : Int), vp] 47 (0, 0))
 hG : W.heap[gr]? = some (.cells #[.int .i64 (X0 : Int), .int .i64 (Y0 : Int), .int .i64 (X1 : Int), .int .i64 (Y1 : Int)] 73 (0, 0))
 hT : TB W gT
 hI : (nat .i64).R 3 W w.heap.size (fun k => vx.ownBlock = some k) vx ix
 hV : (nat .i64).R 3 W w.heap.size (fun k => vr.ownBlock = some k) vr rd
 hA : ApartV vx vr
 hO : PicOwn w.heap.size W vp pw ph hs ss
 hB : Below w.heap.size w W
section
variable {w : World} {gR gf gp gT gr sp pl Wd Ht S X0 Y0 X1 Y1 pw ph : Nat} {vx : Value} {ix rd : List Nat} {vb vp vr : Value} {hs : List Hd} {at1 at2 : Nat} {ss : List (List Nat)} {W W1 : World}
theorem RI.below (h : RI w gR gf gp gT gr sp pl Wd Ht S vx ix vb vp vr hs X0 Y0 X1 Y1 pw ph at1 ss rd W) (hb : Below W.heap.size W W1) : RI w gR gf gp gT gr sp pl Wd Ht S vx ix vb vp vr hs X0 Y0 X1 Y1 pw ph at1 ss rd W1 :=
 ⟨blk_below h.hR hb, blk_below h.hF hb, blk_below h.hP hb, blk_below h.hG hb, h.hT.below hb, Kd.R_below h.hI hb, Kd.R_below h.hV hb, h.hA, h.hO.below hb, below_step h.hB hb⟩
/-- a row of whole numbers of one's own stands where the world's blocks of ints stand -/
theorem ints_stay {v : Value} {xs : List Nat} {ok : Nat → Prop} {B : Nat} (h : (nat .i64).R 3 W B ok v xs) (hm : ∀ k cs, v.ownBlock = some k → W.heap[k]? = some (.cells cs 3 (0, 0)) → W1.heap[k]? = W.heap[k]?) : (nat .i64).R 3 W1 B ok v xs :=
 nat_move h (fun k hk => by obtain ⟨cs, hc⟩ := own_typed (Kd.own_of_R h) k hk; exact hm k cs hk hc)
theorem RI.part (h : RI w gR gf gp gT gr sp pl Wd Ht S vx ix vb vp vr hs X0 Y0 X1 Y1 pw ph at1 ss rd W) (hg : W.grownBy W1 (some gf)) (hgf : w.heap.size ≤ gf) (hF : W1.heap[gf]? = some (FC sp pl Wd Ht S gT vx vb at2)) : RI w gR gf gp gT gr sp pl Wd Ht S vx ix vb vp vr hs X0 Y0 X1 Y1 pw ph at2 ss rd W1 := by
 have hb : ∀ {g : Nat} {cs : Array Value} {t : TypeId}, W.heap[g]? = some (.cells cs t (0, 0)) → t ≠ 121 → W1.heap[g]? = some (.cells cs t (0, 0)) := fun {g cs t} hg2 ht => blk_past hg2 h.hF ht hg
 obtain ⟨ct, hct⟩ := h.hT.block
 refine ⟨hb h.hR (by decide), hF, hb h.hP (by decide), hb h.hG (by decide), h.hT.move ((hb hct (by decide)).trans hct.symm), ints_stay h.hI (fun k cs _ hc => (hb hc (by decide)).trans hc.symm), ints_stay h.hV (fun k cs _ hc => (hb hc (by decide)).trans hc.symm), h.hA, ?_, ?_⟩
 ·exact h.hO.move (fun k hk => by obtain ⟨_, _, cs, hc⟩ := h.hO.row_lt hk; exact (hb hc (by decide)).trans hc.symm) (fun i hi k hk => by obtain ⟨_, _, cs, hc⟩ := h.hO.pl_lt hi hk; exact (hb hc (by decide)).trans hc.symm)
 ·exact ⟨hg.os.trans h.hB.os, hg.tape.trans h.hB.tape, hg.output.trans h.hB.output, Nat.le_trans h.hB.size hg.size, fun k hk => (hg.block k (Nat.lt_of_lt_of_le hk h.hB.size) (fun e => by injection e with e; omega)).trans (h.hB.block k hk)⟩
theorem RI.paste (h : RI w gR gf gp gT gr sp pl Wd Ht S vx ix vb vp vr hs X0 Y0 X1 Y1 pw ph at1 ss rd W) {j : Nat} (hj : j < hs.length) {ss' : List (List Nat)} (hO : PicOwn w.heap.size W1 vp pw ph hs ss') (hB : Below w.heap.size w W1) (hk : Kept W W1 (fun k => (hs[j]).v.ownBlock = some k)) : RI w gR gf gp gT gr sp pl Wd Ht S vx ix vb vp vr hs X0 Y0 X1 Y1 pw ph at1 ss' rd W1 := by
 have hb : ∀ {g : Nat} {cs : Array Value} {t : TypeId}, W.heap[g]? = some (.cells cs t (0, 0)) → t ≠ 24 → W1.heap[g]? = some (.cells cs t (0, 0)) := fun {g cs t} hg ht => (hk.2 g (blk_lt hg) (fun e => h.hO.ne_pl hg ht j hj e)).trans hg
 obtain ⟨ct, hct⟩ := h.hT.block
 exact ⟨hb h.hR (by decide), hb h.hF (by decide), hb h.hP (by decide), hb h.hG (by decide), h.hT.move ((hb hct (by decide)).trans hct.symm), ints_stay h.hI (fun k cs _ hc => (hb hc (by decide)).trans hc.symm), ints_stay h.hV (fun k cs _ hc => (hb hc (by decide)).trans hc.symm), h.hA, hO, hB⟩
/-- one more tile told -/
theorem RI.told (h : RI w gR gf gp gT gr sp pl Wd Ht S vx ix vb vp vr hs X0 Y0 X1 Y1 pw ph at1 ss rd W) {vr1 : Value} {rd1 : List Nat} {ok1 : Nat → Prop} (hR : (nat .i64).R 3 W1 w.heap.size ok1 vr1 rd1) (hB : Below w.heap.size w W1) (hg : W.grownBy W1 vr.ownBlock) (hat : vr1.ownBlock = vr.ownBlock ∨ ∃ b, vr1.ownBlock = some b ∧ W.heap.size ≤ b) : RI w gR gf gp gT gr sp pl Wd Ht S vx ix vb vp vr1 hs X0 Y0 X1 Y1 pw ph at1 ss rd1 W1 := by
 have hb : ∀ {g : Nat} {cs : Array Value} {t : TypeId}, W.heap[g]? = some (.cells cs t (0, 0)) → t ≠ 3 → W1.heap[g]? = some (.cells cs t (0, 0)) := fun {g cs t} hg2 ht => (hg.block g (blk_lt hg2) (fun e => Kd.R_ne h.hV hg2 (fun e2 => ht e2.symm) e)).trans hg2
 obtain ⟨ct, hct⟩ := h.hT.block
 refine ⟨hb h.hR (by decide), hb h.hF (by decide), hb h.hP (by decide), hb h.hG (by decide), h.hT.move ((hb hct (by decide)).trans hct.symm), ints_stay h.hI (fun k cs hk hc => hg.block k (blk_lt hc) (fun e => h.hA k hk e.symm)), nat_self hR, ?_, ?_, hB⟩
 ·intro k hk hk2
  have hlt := ((Kd.R_bound h.hI).1 k hk).2.2.1
  rcases hat with e | ⟨b, e, hb2⟩
  ·rw [e] at hk2; exact h.hA k hk hk2
  ·rw [e] at hk2; injection hk2 with hk2; omega
 ·exact h.hO.move (fun k hk => by obtain ⟨_, _, cs, hc⟩ := h.hO.row_lt hk; exact (hb hc (by decide)).trans hc.symm) (fun i hi k hk => by obtain ⟨_, _, cs, hc⟩ := h.hO.pl_lt hi hk; exact (hb hc (by decide)).trans hc.symm)
theorem below_past {w W W1 : World} {gf : Nat} (hB : Below w.heap.size w W) (hg : W.grownBy W1 (some gf)) (hgf : w.heap.size ≤ gf) : Below w.heap.size w W1 :=
 ⟨hg.os.trans hB.os, hg.tape.trans hB.tape, hg.output.trans hB.output, Nat.le_trans hB.size hg.size, fun k hk => (hg.block k (Nat.lt_of_lt_of_le hk hB.size) (fun e => by injection e with e; omega)).trans (hB.block k hk)⟩
theorem RI.far (h : RI w gR gf gp gT gr sp pl Wd Ht S vx ix vb vp vr hs X0 Y0 X1 Y1 pw ph at1 ss rd W) (hg : W.grownBy W1 vr.ownBlock) {g : Nat} {cs : Array Value} {t : TypeId} (hg2 : W.heap[g]? = some (.cells cs t (0, 0))) (ht : t ≠ 3) : W1.heap[g]? = some (.cells cs t (0, 0)) :=
 (hg.block g (blk_lt hg2) (fun e => Kd.R_ne h.hV hg2 (fun e2 => ht e2.symm) e)).trans hg2
theorem RI.words (h : RI w gR gf gp gT gr sp pl Wd Ht S vx ix vb vp vr hs X0 Y0 X1 Y1 pw ph at1 ss rd W) (hg : W.grownBy W1 vr.ownBlock) {v : Value} {xs : List Nat} {ok : Nat → Prop} {B : Nat} (hv : (nat .u32).R 24 W B ok v xs) : (nat .u32).R 24 W1 B ok v xs :=
 nat_move hv (fun k hk => by obtain ⟨cs, hc⟩ := own_typed (Kd.own_of_R hv) k hk; exact (h.far hg hc (by decide)).trans hc.symm)
/-- another place in the file's cells -/
theorem RI.skip (h : RI w gR gf gp gT gr sp pl Wd Ht S vx ix vb vp vr hs X0 Y0 X1 Y1 pw ph at1 ss rd W) (hgf : w.heap.size ≤ gf) : RI w gR gf gp gT gr sp pl Wd Ht S vx ix vb vp vr hs X0 Y0 X1 Y1 pw ph at2 ss rd (W.setCell ⟨gf, 8, none⟩ (.int .i64 (at2 : Int))) :=
 h.part (gset ⟨rfl, rfl, rfl, Nat.le_refl _, fun _ _ _ => rfl⟩ 8 _) hgf ((blk_set h.hF 8 _).trans rfl)
end
end Go.Proofs.Ytbbebhdcfopmmaa.A
end
